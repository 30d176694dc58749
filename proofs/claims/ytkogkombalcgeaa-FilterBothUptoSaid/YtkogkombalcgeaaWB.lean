/- The walks, made by program: each call does what its pure predicate says. -/
import Derived.Test.YtkogkombalcgeaaPB
import Derived.Test.YtkogkombalcgeaaWA
set_option linter.unusedVariables false
set_option linter.unusedSimpArgs false
namespace Go.Proofs.Ytkogkombalcgeaa
open Go.Sy Go.RowKit
theorem fcheck_fun (u0 : List Filter) (ao1 : Option Addr) (cap2 : Nat) (Z : Fz) (w : World) (hs3 : SlR tyFilter Z ao1 cap2 u0) (hZ : Z.on w) : Calls Try.prog 26 #[.slice ao1 u0.length cap2] w fun e w' => e = .returned (.int .i64 (fcheckS u0)) ∧ Below w.heap.size w w' :=
  (fcheck_walk u0 ao1 cap2 Z w hs3 hZ (fcheck_ok u0)).mono fun _ _ ⟨r, he, hk, hb⟩ => ⟨by subst hk; exact he, hb⟩

theorem rcheckf_fun (u0 : List Filter) (ao1 : Option Addr) (cap2 : Nat) (Z : Fz) (w : World) (hs3 : SlR tyFilter Z ao1 cap2 u0) (hZ : Z.on w) : Calls Try.prog 19 #[.slice ao1 u0.length cap2] w fun e w' => e = .returned (.int .i64 (fcheckS u0)) ∧ Below w.heap.size w w' :=
  (rcheckf_walk u0 ao1 cap2 Z w hs3 hZ (rcheckf_ok u0)).mono fun _ _ ⟨r, he, hk, hb⟩ => ⟨by subst hk; exact he, hb⟩

theorem scontains_fun (u0 : List Int) (u1 : Int) (ao1 : Option Addr) (cap2 : Nat) (Z : Fz) (w : World) (hs3 : SlR (tyInt .i64) Z ao1 cap2 u0) (hZ : Z.on w) : Calls Try.prog 54 #[.slice ao1 u0.length cap2, .int .i64 u1] w fun e w' => e = .returned (.bool (scontainsS u0 u1)) ∧ Below w.heap.size w w' :=
  (scontains_walk u0 u1 ao1 cap2 Z w hs3 hZ (scontains_ok u0 u1)).mono fun _ _ ⟨r, he, hk, hb⟩ => ⟨by subst hk; exact he, hb⟩

theorem sequal_fun (u0 : List Int) (u1 : List Int) (ao1 : Option Addr) (cap2 : Nat) (ao4 : Option Addr) (cap5 : Nat) (Z : Fz) (w : World) (hs3 : SlR (tyInt .i64) Z ao1 cap2 u0) (hs6 : SlR (tyInt .i64) Z ao4 cap5 u1) (hZ : Z.on w) : Calls Try.prog 28 #[.slice ao1 u0.length cap2, .slice ao4 u1.length cap5] w fun e w' => e = .returned (.bool (sequalS u0 u1)) ∧ Below w.heap.size w w' :=
  (sequal_walk u0 u1 ao1 cap2 ao4 cap5 Z w hs3 hs6 hZ (sequal_ok u0 u1)).mono fun _ _ ⟨r, he, hk, hb⟩ => ⟨by subst hk; exact he, hb⟩

theorem feq_fun (u0 : List Filter) (u1 : List Filter) (ao1 : Option Addr) (cap2 : Nat) (ao4 : Option Addr) (cap5 : Nat) (Z : Fz) (w : World) (hs3 : SlR tyFilter Z ao1 cap2 u0) (hs6 : SlR tyFilter Z ao4 cap5 u1) (hZ : Z.on w) : Calls Try.prog 17 #[.slice ao1 u0.length cap2, .slice ao4 u1.length cap5] w fun e w' => e = .returned (.bool (feqS u0 u1)) ∧ Below w.heap.size w w' :=
  (feq_walk u0 u1 ao1 cap2 ao4 cap5 Z w hs3 hs6 hZ (feq_ok u0 u1)).mono fun _ _ ⟨r, he, hk, hb⟩ => ⟨by subst hk; exact he, hb⟩

theorem fcontf_fun (u0 : List Filter) (u1 : Filter → Bool) (ao1 : Option Addr) (cap2 : Nat) (fid4 : Nat) (caps5 : Array Value) (Z : Fz) (w : World) (hs3 : SlR tyFilter Z ao1 cap2 u0) (hf6 : ∀ (Z1 : Fz) (w1 : World), Z.le Z1 → Z1.on w1 → ∀ (x0 : Filter), Calls Try.prog fid4 (#[.agg #[.int .i64 x0.Want, .int .i64 x0.Mask, .bool x0.Long]] ++ caps5) w1 fun e w2 => e = .returned (.bool (u1 x0)) ∧ Below w1.heap.size w1 w2) (hg7 : ∀ x w, Sem.run Try.prog (callFunc fid4 x) w = .ok (.enter fid4 x) w) (hZ : Z.on w) : Calls Try.prog 20 #[.slice ao1 u0.length cap2, .func (.func fid4) #[] caps5] w fun e w' => e = .returned (.bool (fcontfS u0 u1)) ∧ Below w.heap.size w w' :=
  (fcontf_walk u0 u1 ao1 cap2 fid4 caps5 Z w hs3 hf6 hg7 hZ (fcontf_ok u0 u1)).mono fun _ _ ⟨r, he, hk, hb⟩ => ⟨by subst hk; exact he, hb⟩

set_option maxRecDepth 100000 in
theorem fcheckfr_walk (u0 : Frame) (ao1 : Option Addr) (cap2 : Nat) (Z : Fz) (w : World) (hs3 : SlR (tyInt .u8) Z ao1 cap2 u0.Data) (hZ : Z.on w) {K : Int → Prop} (hp : fcheckfr_vc u0 K) : Calls Try.prog 52 #[.agg #[.int .i64 u0.ID, .bool u0.Long, .bool u0.Fast, .bool u0.Remote, .int .i64 u0.Size, .slice ao1 u0.Data.length cap2]] w fun e w' => ∃ r : Int, e = .returned (.int .i64 r) ∧ K r ∧ Below w.heap.size w w' := by
 refine enter0 Try.func52 rfl rfl (by kernel_rfl) ?_; intro a0 hF0; have hM0 := Mem.start w Z hZ; have hle0 := Fz.le.refl Z
 have hp4 := hp (hs3.small); clear hp
 refine sqH ?_; intro hQ5Q hQ5
 refine sn hF0 hM0 (fun b => .pointer (some ⟨b, 0, none⟩)) [.int .i64 u0.ID, .bool u0.Long, .bool u0.Fast, .bool u0.Remote, .int .i64 u0.Size, .slice ao1 u0.Data.length cap2] 38 (nog rfl _) rfl (by kernel_rfl) (by kernel_rfl) ?_; intro b6 a7 wd9 hF8 hM10; clear hF0 hM0
 refine s1 hF8 2 (.int .i64 0) ?_; intro a11 hF12; clear hF8
 refine nlH (hQ5 _ _ ?_); clear hQ5 hQ5Q
 refine wp_seq ?_
 refine wp_block ?_
 refine sqH ?_; intro hQ13Q hQ13
 refine s1 hF12 4 (.pointer (some ⟨b6, 0, none⟩)) ?_; intro a14 hF15; clear hF12
 refine l1 hF15 hM10 5 0 0 (.int .i64 u0.ID) rfl rfl ?_; intro a16 hF17; clear hF15
 refine s1 hF17 6 (.bool (decide (u0.ID < 0))) ?_; intro a18 hF19; clear hF17
 refine s1 hF19 7 (.bool (decide (u0.ID < 0))) ?_; intro a20 hF21; clear hF19
 have hF22 := hF21.atom ((decide (u0.ID < 0)) == false) (by kernel_rfl); clear hF21
 refine gp hF22 8 0 [] (decide (u0.ID < 0)) (.pointer (some ⟨b6, 1, none⟩)) rfl rfl ?_; intro a23 hF24; clear hF22
 refine gd hF24 (.bool u0.Long) (m := 0) (cj := []) (bj := decide (u0.ID < 0)) rfl rfl (by kernel_rfl) rfl (by kernel_rfl) (by kernel_rfl) (by kernel_rfl) (fun hg => ld hF24 hM10 0 (g := [0]) (b := b6) (off := 1) (cs := [.int .i64 u0.ID, .bool u0.Long, .bool u0.Fast, .bool u0.Remote, .int .i64 u0.Size, .slice ao1 u0.Data.length cap2]) (ty := 38) rfl (by kernel_rfl) (by kernel_rfl) (by kernel_rfl) (by kernel_rfl) hg) ?_; intro a25 hF26; clear hF24
 refine gp hF26 10 0 [] (decide (u0.ID < 0)) (.bool (!u0.Long)) rfl rfl ?_; intro a27 hF28; clear hF26
 refine gp hF28 11 0 [] (decide (u0.ID < 0)) (.bool (!u0.Long)) rfl rfl ?_; intro a29 hF30; clear hF28
 have hF31 := hF30.atom ((!u0.Long) == true) (by kernel_rfl); clear hF30
 refine gp hF31 12 1 [0] (!u0.Long) (.pointer (some ⟨b6, 0, none⟩)) rfl rfl ?_; intro a32 hF33; clear hF31
 refine gd hF33 (.int .i64 u0.ID) (m := 1) (cj := [0]) (bj := !u0.Long) rfl rfl (by kernel_rfl) rfl (by kernel_rfl) (by kernel_rfl) (by kernel_rfl) (fun hg => ld hF33 hM10 0 (g := [1, 0]) (b := b6) (off := 0) (cs := [.int .i64 u0.ID, .bool u0.Long, .bool u0.Fast, .bool u0.Remote, .int .i64 u0.Size, .slice ao1 u0.Data.length cap2]) (ty := 38) rfl (by kernel_rfl) (by kernel_rfl) (by kernel_rfl) (by kernel_rfl) hg) ?_; intro a34 hF35; clear hF33
 refine gp hF35 14 1 [0] (!u0.Long) (.bool (decide (u0.ID > 2047))) rfl rfl ?_; intro a36 hF37; clear hF35
 refine gd hF37 (.bool ((!u0.Long) && (decide (u0.ID > 2047)))) (m := 0) (cj := []) (bj := decide (u0.ID < 0)) rfl rfl (by kernel_rfl) rfl (by kernel_rfl) (by kernel_rfl) (by kernel_rfl) (fun hg => pk_and hF37 (g := [0]) (m := 1) (b := !u0.Long) (v := decide (u0.ID > 2047)) rfl (by kernel_rfl) (by kernel_rfl) (by kernel_rfl) hg) ?_; intro a38 hF39; clear hF37
 refine st hF39 (.bool ((decide (u0.ID < 0)) || ((!u0.Long) && (decide (u0.ID > 2047))))) (nog rfl _) rfl (by kernel_rfl) (pk_or hF39 (g := []) (m := 0) (b := decide (u0.ID < 0)) (v := (!u0.Long) && (decide (u0.ID > 2047))) rfl (by kernel_rfl) (by kernel_rfl) (by kernel_rfl) rfl) ?_; intro a40 hF41; clear hF39
 refine s1 hF41 17 (.bool ((decide (u0.ID < 0)) || ((!u0.Long) && (decide (u0.ID > 2047))))) ?_; intro a42 hF43; clear hF41
 have hF44 := hF43.atom (((decide (u0.ID < 0)) || ((!u0.Long) && (decide (u0.ID > 2047)))) == false) (by kernel_rfl); clear hF43
 refine gp hF44 18 2 [] ((decide (u0.ID < 0)) || ((!u0.Long) && (decide (u0.ID > 2047)))) (.pointer (some ⟨b6, 0, none⟩)) rfl rfl ?_; intro a45 hF46; clear hF44
 refine gd hF46 (.int .i64 u0.ID) (m := 2) (cj := []) (bj := (decide (u0.ID < 0)) || ((!u0.Long) && (decide (u0.ID > 2047)))) rfl rfl (by kernel_rfl) rfl (by kernel_rfl) (by kernel_rfl) (by kernel_rfl) (fun hg => ld hF46 hM10 0 (g := [2]) (b := b6) (off := 0) (cs := [.int .i64 u0.ID, .bool u0.Long, .bool u0.Fast, .bool u0.Remote, .int .i64 u0.Size, .slice ao1 u0.Data.length cap2]) (ty := 38) rfl (by kernel_rfl) (by kernel_rfl) (by kernel_rfl) (by kernel_rfl) hg) ?_; intro a47 hF48; clear hF46
 refine gp hF48 20 2 [] ((decide (u0.ID < 0)) || ((!u0.Long) && (decide (u0.ID > 2047)))) (.bool (decide (u0.ID > 536870911))) rfl rfl ?_; intro a49 hF50; clear hF48
 refine st hF50 (.bool (((decide (u0.ID < 0)) || ((!u0.Long) && (decide (u0.ID > 2047)))) || (decide (u0.ID > 536870911)))) (nog rfl _) rfl (by kernel_rfl) (pk_or hF50 (g := []) (m := 2) (b := (decide (u0.ID < 0)) || ((!u0.Long) && (decide (u0.ID > 2047)))) (v := decide (u0.ID > 536870911)) rfl (by kernel_rfl) (by kernel_rfl) (by kernel_rfl) rfl) ?_; intro a51 hF52; clear hF50
 refine s1 hF52 3 (.bool (((decide (u0.ID < 0)) || ((!u0.Long) && (decide (u0.ID > 2047)))) || (decide (u0.ID > 536870911)))) ?_; intro a53 hF54; clear hF52
 refine nlH (hQ13 _ _ ?_); clear hQ13 hQ13Q
 refine cd hF54 (t := ((decide (u0.ID < 0)) || ((!u0.Long) && (decide (u0.ID > 2047)))) || (decide (u0.ID > 536870911))) (by kernel_rfl) (fun hb55 => ?_) (fun hb55 => ?_)
 · -- yes
  have hp56 := hp4.1 hb55; clear hp4
  have hF57 : Fr 77 [] [] a53 := hF54.region (by kernel_rfl) (by kernel_rfl); clear hF54
  refine sqH ?_; intro hQ58Q hQ58
  refine s1 hF57 2 (.int .i64 3) ?_; intro a59 hF60; clear hF57
  refine nlH (hQ58 _ _ ?_); clear hQ58 hQ58Q
  refine wp_ret ?_
  refine ibr ?_
  refine thr ?_
  refine rt (fn := Try.f52) (v := .int .i64 3) hF60 (re1 hF60 (fn := Try.f52) rfl (by kernel_rfl)) ?_
  exact ⟨3, rfl, hp56, hM10.below⟩
 · -- no
  have hp61 := hp4.2 hb55; clear hp4
  have hF62 : Fr 77 [] [⟨1, [], .pointer (some ⟨b6, 0, none⟩)⟩] a53 := hF54.region (by kernel_rfl) (by kernel_rfl); clear hF54
  refine sqH ?_; intro hQ63Q hQ63
  refine s1 hF62 23 (.pointer (some ⟨b6, 3, none⟩)) ?_; intro a64 hF65; clear hF62
  refine l1 hF65 hM10 24 0 3 (.bool u0.Remote) rfl rfl ?_; intro a66 hF67; clear hF65
  refine s1 hF67 25 (.bool u0.Remote) ?_; intro a68 hF69; clear hF67
  have hF70 := hF69.atom (u0.Remote == true) (by kernel_rfl); clear hF69
  refine gp hF70 26 0 [] (u0.Remote) (.pointer (some ⟨b6, 2, none⟩)) rfl rfl ?_; intro a71 hF72; clear hF70
  refine gd hF72 (.bool u0.Fast) (m := 0) (cj := []) (bj := u0.Remote) rfl rfl (by kernel_rfl) rfl (by kernel_rfl) (by kernel_rfl) (by kernel_rfl) (fun hg => ld hF72 hM10 0 (g := [0]) (b := b6) (off := 2) (cs := [.int .i64 u0.ID, .bool u0.Long, .bool u0.Fast, .bool u0.Remote, .int .i64 u0.Size, .slice ao1 u0.Data.length cap2]) (ty := 38) rfl (by kernel_rfl) (by kernel_rfl) (by kernel_rfl) (by kernel_rfl) hg) ?_; intro a73 hF74; clear hF72
  refine gp hF74 28 0 [] (u0.Remote) (.bool u0.Fast) rfl rfl ?_; intro a75 hF76; clear hF74
  have hF77 := hF76.atom (u0.Fast == false) (by kernel_rfl); clear hF76
  refine gp hF77 29 1 [0] (u0.Fast) (.pointer (some ⟨b6, 5, none⟩)) rfl rfl ?_; intro a78 hF79; clear hF77
  refine gd hF79 (.slice ao1 u0.Data.length cap2) (m := 1) (cj := [0]) (bj := u0.Fast) rfl rfl (by kernel_rfl) rfl (by kernel_rfl) (by kernel_rfl) (by kernel_rfl) (fun hg => ld hF79 hM10 0 (g := [1, 0]) (b := b6) (off := 5) (cs := [.int .i64 u0.ID, .bool u0.Long, .bool u0.Fast, .bool u0.Remote, .int .i64 u0.Size, .slice ao1 u0.Data.length cap2]) (ty := 38) rfl (by kernel_rfl) (by kernel_rfl) (by kernel_rfl) (by kernel_rfl) hg) ?_; intro a80 hF81; clear hF79
  refine gp hF81 31 1 [0] (u0.Fast) (.int .i64 (u0.Data.length : Int)) rfl rfl ?_; intro a82 hF83; clear hF81
  refine gp hF83 32 1 [0] (u0.Fast) (.bool (decide ((u0.Data.length : Int) > 0))) rfl rfl ?_; intro a84 hF85; clear hF83
  refine gd hF85 (.bool (u0.Fast || (decide ((u0.Data.length : Int) > 0)))) (m := 0) (cj := []) (bj := u0.Remote) rfl rfl (by kernel_rfl) rfl (by kernel_rfl) (by kernel_rfl) (by kernel_rfl) (fun hg => pk_or hF85 (g := [0]) (m := 1) (b := u0.Fast) (v := decide ((u0.Data.length : Int) > 0)) rfl (by kernel_rfl) (by kernel_rfl) (by kernel_rfl) hg) ?_; intro a86 hF87; clear hF85
  refine st hF87 (.bool (u0.Remote && (u0.Fast || (decide ((u0.Data.length : Int) > 0))))) (nog rfl _) rfl (by kernel_rfl) (pk_and hF87 (g := []) (m := 0) (b := u0.Remote) (v := u0.Fast || (decide ((u0.Data.length : Int) > 0))) rfl (by kernel_rfl) (by kernel_rfl) (by kernel_rfl) rfl) ?_; intro a88 hF89; clear hF87
  refine s1 hF89 22 (.bool (u0.Remote && (u0.Fast || (decide ((u0.Data.length : Int) > 0))))) ?_; intro a90 hF91; clear hF89
  refine nlH (hQ63 _ _ ?_); clear hQ63 hQ63Q
  refine cd hF91 (t := u0.Remote && (u0.Fast || (decide ((u0.Data.length : Int) > 0)))) (by kernel_rfl) (fun hb92 => ?_) (fun hb92 => ?_)
  · -- yes
   have hp93 := hp61.1 hb92; clear hp61
   have hF94 : Fr 77 [] [] a90 := hF91.region (by kernel_rfl) (by kernel_rfl); clear hF91
   refine sqH ?_; intro hQ95Q hQ95
   refine s1 hF94 2 (.int .i64 4) ?_; intro a96 hF97; clear hF94
   refine nlH (hQ95 _ _ ?_); clear hQ95 hQ95Q
   refine wp_ret ?_
   refine ibr ?_
   refine thr ?_
   refine rt (fn := Try.f52) (v := .int .i64 4) hF97 (re1 hF97 (fn := Try.f52) rfl (by kernel_rfl)) ?_
   exact ⟨4, rfl, hp93, hM10.below⟩
  · -- no
   have hp98 := hp61.2 hb92; clear hp61
   have hF99 : Fr 77 [] [⟨1, [], .pointer (some ⟨b6, 0, none⟩)⟩] a90 := hF91.region (by kernel_rfl) (by kernel_rfl); clear hF91
   refine sqH ?_; intro hQ100Q hQ100
   refine s1 hF99 36 (.pointer (some ⟨b6, 4, none⟩)) ?_; intro a101 hF102; clear hF99
   refine l1 hF102 hM10 37 0 4 (.int .i64 u0.Size) rfl rfl ?_; intro a103 hF104; clear hF102
   refine s1 hF104 38 (.bool (decide (u0.Size < 0))) ?_; intro a105 hF106; clear hF104
   refine s1 hF106 39 (.bool (decide (u0.Size < 0))) ?_; intro a107 hF108; clear hF106
   have hF109 := hF108.atom ((decide (u0.Size < 0)) == false) (by kernel_rfl); clear hF108
   refine gp hF109 40 0 [] (decide (u0.Size < 0)) (.pointer (some ⟨b6, 4, none⟩)) rfl rfl ?_; intro a110 hF111; clear hF109
   refine gd hF111 (.int .i64 u0.Size) (m := 0) (cj := []) (bj := decide (u0.Size < 0)) rfl rfl (by kernel_rfl) rfl (by kernel_rfl) (by kernel_rfl) (by kernel_rfl) (fun hg => ld hF111 hM10 0 (g := [0]) (b := b6) (off := 4) (cs := [.int .i64 u0.ID, .bool u0.Long, .bool u0.Fast, .bool u0.Remote, .int .i64 u0.Size, .slice ao1 u0.Data.length cap2]) (ty := 38) rfl (by kernel_rfl) (by kernel_rfl) (by kernel_rfl) (by kernel_rfl) hg) ?_; intro a112 hF113; clear hF111
   refine gp hF113 42 0 [] (decide (u0.Size < 0)) (.bool (decide (u0.Size > 8))) rfl rfl ?_; intro a114 hF115; clear hF113
   refine st hF115 (.bool ((decide (u0.Size < 0)) || (decide (u0.Size > 8)))) (nog rfl _) rfl (by kernel_rfl) (pk_or hF115 (g := []) (m := 0) (b := decide (u0.Size < 0)) (v := decide (u0.Size > 8)) rfl (by kernel_rfl) (by kernel_rfl) (by kernel_rfl) rfl) ?_; intro a116 hF117; clear hF115
   refine s1 hF117 44 (.bool ((decide (u0.Size < 0)) || (decide (u0.Size > 8)))) ?_; intro a118 hF119; clear hF117
   have hF120 := hF119.atom (((decide (u0.Size < 0)) || (decide (u0.Size > 8))) == false) (by kernel_rfl); clear hF119
   refine gp hF120 45 1 [] ((decide (u0.Size < 0)) || (decide (u0.Size > 8))) (.pointer (some ⟨b6, 3, none⟩)) rfl rfl ?_; intro a121 hF122; clear hF120
   refine gd hF122 (.bool u0.Remote) (m := 1) (cj := []) (bj := (decide (u0.Size < 0)) || (decide (u0.Size > 8))) rfl rfl (by kernel_rfl) rfl (by kernel_rfl) (by kernel_rfl) (by kernel_rfl) (fun hg => ld hF122 hM10 0 (g := [1]) (b := b6) (off := 3) (cs := [.int .i64 u0.ID, .bool u0.Long, .bool u0.Fast, .bool u0.Remote, .int .i64 u0.Size, .slice ao1 u0.Data.length cap2]) (ty := 38) rfl (by kernel_rfl) (by kernel_rfl) (by kernel_rfl) (by kernel_rfl) hg) ?_; intro a123 hF124; clear hF122
   refine gp hF124 47 1 [] ((decide (u0.Size < 0)) || (decide (u0.Size > 8))) (.bool (!u0.Remote)) rfl rfl ?_; intro a125 hF126; clear hF124
   refine gp hF126 48 1 [] ((decide (u0.Size < 0)) || (decide (u0.Size > 8))) (.bool (!u0.Remote)) rfl rfl ?_; intro a127 hF128; clear hF126
   have hF129 := hF128.atom ((!u0.Remote) == true) (by kernel_rfl); clear hF128
   refine gp hF129 49 2 [1] (!u0.Remote) (.pointer (some ⟨b6, 4, none⟩)) rfl rfl ?_; intro a130 hF131; clear hF129
   refine gd hF131 (.int .i64 u0.Size) (m := 2) (cj := [1]) (bj := !u0.Remote) rfl rfl (by kernel_rfl) rfl (by kernel_rfl) (by kernel_rfl) (by kernel_rfl) (fun hg => ld hF131 hM10 0 (g := [2, 1]) (b := b6) (off := 4) (cs := [.int .i64 u0.ID, .bool u0.Long, .bool u0.Fast, .bool u0.Remote, .int .i64 u0.Size, .slice ao1 u0.Data.length cap2]) (ty := 38) rfl (by kernel_rfl) (by kernel_rfl) (by kernel_rfl) (by kernel_rfl) hg) ?_; intro a132 hF133; clear hF131
   refine gp hF133 51 2 [1] (!u0.Remote) (.bool (u0.Size != 0)) rfl rfl ?_; intro a134 hF135; clear hF133
   refine gd hF135 (.bool ((!u0.Remote) && (u0.Size != 0))) (m := 1) (cj := []) (bj := (decide (u0.Size < 0)) || (decide (u0.Size > 8))) rfl rfl (by kernel_rfl) rfl (by kernel_rfl) (by kernel_rfl) (by kernel_rfl) (fun hg => pk_and hF135 (g := [1]) (m := 2) (b := !u0.Remote) (v := u0.Size != 0) rfl (by kernel_rfl) (by kernel_rfl) (by kernel_rfl) hg) ?_; intro a136 hF137; clear hF135
   refine st hF137 (.bool (((decide (u0.Size < 0)) || (decide (u0.Size > 8))) || ((!u0.Remote) && (u0.Size != 0)))) (nog rfl _) rfl (by kernel_rfl) (pk_or hF137 (g := []) (m := 1) (b := (decide (u0.Size < 0)) || (decide (u0.Size > 8))) (v := (!u0.Remote) && (u0.Size != 0)) rfl (by kernel_rfl) (by kernel_rfl) (by kernel_rfl) rfl) ?_; intro a138 hF139; clear hF137
   refine s1 hF139 35 (.bool (((decide (u0.Size < 0)) || (decide (u0.Size > 8))) || ((!u0.Remote) && (u0.Size != 0)))) ?_; intro a140 hF141; clear hF139
   refine nlH (hQ100 _ _ ?_); clear hQ100 hQ100Q
   refine cd hF141 (t := ((decide (u0.Size < 0)) || (decide (u0.Size > 8))) || ((!u0.Remote) && (u0.Size != 0))) (by kernel_rfl) (fun hb142 => ?_) (fun hb142 => ?_)
   · -- yes
    have hp143 := hp98.1 hb142; clear hp98
    have hF144 : Fr 77 [] [] a140 := hF141.region (by kernel_rfl) (by kernel_rfl); clear hF141
    refine sqH ?_; intro hQ145Q hQ145
    refine s1 hF144 2 (.int .i64 3) ?_; intro a146 hF147; clear hF144
    refine nlH (hQ145 _ _ ?_); clear hQ145 hQ145Q
    refine wp_ret ?_
    refine ibr ?_
    refine thr ?_
    refine rt (fn := Try.f52) (v := .int .i64 3) hF147 (re1 hF147 (fn := Try.f52) rfl (by kernel_rfl)) ?_
    exact ⟨3, rfl, hp143, hM10.below⟩
   · -- no
    have hp148 := hp98.2 hb142; clear hp98
    have hF149 : Fr 77 [] [⟨1, [], .pointer (some ⟨b6, 0, none⟩)⟩] a140 := hF141.region (by kernel_rfl) (by kernel_rfl); clear hF141
    refine sqH ?_; intro hQ150Q hQ150
    refine s1 hF149 55 (.pointer (some ⟨b6, 5, none⟩)) ?_; intro a151 hF152; clear hF149
    refine l1 hF152 hM10 56 0 5 (.slice ao1 u0.Data.length cap2) rfl rfl ?_; intro a153 hF154; clear hF152
    refine s1 hF154 57 (.int .i64 (u0.Data.length : Int)) ?_; intro a155 hF156; clear hF154
    refine s1 hF156 58 (.bool (decide ((u0.Data.length : Int) > 64))) ?_; intro a157 hF158; clear hF156
    refine s1 hF158 59 (.bool (decide ((u0.Data.length : Int) > 64))) ?_; intro a159 hF160; clear hF158
    have hF161 := hF160.atom ((decide ((u0.Data.length : Int) > 64)) == false) (by kernel_rfl); clear hF160
    refine gp hF161 60 0 [] (decide ((u0.Data.length : Int) > 64)) (.pointer (some ⟨b6, 2, none⟩)) rfl rfl ?_; intro a162 hF163; clear hF161
    refine gd hF163 (.bool u0.Fast) (m := 0) (cj := []) (bj := decide ((u0.Data.length : Int) > 64)) rfl rfl (by kernel_rfl) rfl (by kernel_rfl) (by kernel_rfl) (by kernel_rfl) (fun hg => ld hF163 hM10 0 (g := [0]) (b := b6) (off := 2) (cs := [.int .i64 u0.ID, .bool u0.Long, .bool u0.Fast, .bool u0.Remote, .int .i64 u0.Size, .slice ao1 u0.Data.length cap2]) (ty := 38) rfl (by kernel_rfl) (by kernel_rfl) (by kernel_rfl) (by kernel_rfl) hg) ?_; intro a164 hF165; clear hF163
    refine gp hF165 62 0 [] (decide ((u0.Data.length : Int) > 64)) (.bool (!u0.Fast)) rfl rfl ?_; intro a166 hF167; clear hF165
    refine gp hF167 63 0 [] (decide ((u0.Data.length : Int) > 64)) (.bool (!u0.Fast)) rfl rfl ?_; intro a168 hF169; clear hF167
    have hF170 := hF169.atom ((!u0.Fast) == true) (by kernel_rfl); clear hF169
    refine gp hF170 64 1 [0] (!u0.Fast) (.pointer (some ⟨b6, 5, none⟩)) rfl rfl ?_; intro a171 hF172; clear hF170
    refine gd hF172 (.slice ao1 u0.Data.length cap2) (m := 1) (cj := [0]) (bj := !u0.Fast) rfl rfl (by kernel_rfl) rfl (by kernel_rfl) (by kernel_rfl) (by kernel_rfl) (fun hg => ld hF172 hM10 0 (g := [1, 0]) (b := b6) (off := 5) (cs := [.int .i64 u0.ID, .bool u0.Long, .bool u0.Fast, .bool u0.Remote, .int .i64 u0.Size, .slice ao1 u0.Data.length cap2]) (ty := 38) rfl (by kernel_rfl) (by kernel_rfl) (by kernel_rfl) (by kernel_rfl) hg) ?_; intro a173 hF174; clear hF172
    refine gp hF174 66 1 [0] (!u0.Fast) (.int .i64 (u0.Data.length : Int)) rfl rfl ?_; intro a175 hF176; clear hF174
    refine gp hF176 67 1 [0] (!u0.Fast) (.bool (decide ((u0.Data.length : Int) > 8))) rfl rfl ?_; intro a177 hF178; clear hF176
    refine gd hF178 (.bool ((!u0.Fast) && (decide ((u0.Data.length : Int) > 8)))) (m := 0) (cj := []) (bj := decide ((u0.Data.length : Int) > 64)) rfl rfl (by kernel_rfl) rfl (by kernel_rfl) (by kernel_rfl) (by kernel_rfl) (fun hg => pk_and hF178 (g := [0]) (m := 1) (b := !u0.Fast) (v := decide ((u0.Data.length : Int) > 8)) rfl (by kernel_rfl) (by kernel_rfl) (by kernel_rfl) hg) ?_; intro a179 hF180; clear hF178
    refine st hF180 (.bool ((decide ((u0.Data.length : Int) > 64)) || ((!u0.Fast) && (decide ((u0.Data.length : Int) > 8))))) (nog rfl _) rfl (by kernel_rfl) (pk_or hF180 (g := []) (m := 0) (b := decide ((u0.Data.length : Int) > 64)) (v := (!u0.Fast) && (decide ((u0.Data.length : Int) > 8))) rfl (by kernel_rfl) (by kernel_rfl) (by kernel_rfl) rfl) ?_; intro a181 hF182; clear hF180
    refine s1 hF182 54 (.bool ((decide ((u0.Data.length : Int) > 64)) || ((!u0.Fast) && (decide ((u0.Data.length : Int) > 8))))) ?_; intro a183 hF184; clear hF182
    refine nlH (hQ150 _ _ ?_); clear hQ150 hQ150Q
    refine cd hF184 (t := (decide ((u0.Data.length : Int) > 64)) || ((!u0.Fast) && (decide ((u0.Data.length : Int) > 8)))) (by kernel_rfl) (fun hb185 => ?_) (fun hb185 => ?_)
    · -- yes
     have hp186 := hp148.1 hb185; clear hp148
     have hF187 : Fr 77 [] [] a183 := hF184.region (by kernel_rfl) (by kernel_rfl); clear hF184
     refine sqH ?_; intro hQ188Q hQ188
     refine s1 hF187 2 (.int .i64 2) ?_; intro a189 hF190; clear hF187
     refine nlH (hQ188 _ _ ?_); clear hQ188 hQ188Q
     refine wp_ret ?_
     refine ibr ?_
     refine thr ?_
     refine rt (fn := Try.f52) (v := .int .i64 2) hF190 (re1 hF190 (fn := Try.f52) rfl (by kernel_rfl)) ?_
     exact ⟨2, rfl, hp186, hM10.below⟩
    · -- no
     have hp191 := hp148.2 hb185; clear hp148
     have hF192 : Fr 77 [] [⟨1, [], .pointer (some ⟨b6, 0, none⟩)⟩] a183 := hF184.region (by kernel_rfl) (by kernel_rfl); clear hF184
     refine wp_seq (any_invE mixed [[], [], [1], [2], [0, 3], [4], [4, 5]] 7 (fun S a w1 => ∃ (ao197 : Option Addr) (cap198 : Nat) (ud70 : Value) (ud71 : Value) (ud72 : Value) (ud73 : Value) (ud74 : Value) (ud75 : Value) (ud76 : Value) (rh0 : Res) (rh1 : Res) (Z221 : Fz), Fz.le Z Z221 ∧ Fr 77 [] [⟨1, [], .pointer (some ⟨b6, 0, none⟩)⟩, ⟨70, [], ud70⟩, ⟨71, [], ud71⟩, ⟨72, [], ud72⟩, ⟨73, [], ud73⟩, ⟨74, [], ud74⟩, ⟨75, [], ud75⟩, ⟨76, [], ud76⟩] a ∧ Mem w.heap.size [] w Z [rh0, rh1] Z221 w1 ∧ (S 6 = true → ud70 = .bool (!(scontainsS fsizes (u0.Data.length : Int)))) ∧ (S 0 = true → ud71 = .slice ao197 fsizes.length cap198) ∧ (S 1 = true → ud72 = .pointer (some ⟨b6, 5, none⟩)) ∧ (S 2 = true → ud73 = .slice ao1 u0.Data.length cap2) ∧ (S 3 = true → ud74 = .int .i64 (u0.Data.length : Int)) ∧ (S 4 = true → ud75 = .bool (scontainsS fsizes (u0.Data.length : Int))) ∧ (S 5 = true → ud76 = .bool (!(scontainsS fsizes (u0.Data.length : Int)))) ∧ (rh0 = .row b6 [.int .i64 u0.ID, .bool u0.Long, .bool u0.Fast, .bool u0.Remote, .int .i64 u0.Size, .slice ao1 u0.Data.length cap2] 38) ∧ (S 0 = false → rh1 = .nil) ∧ (S 0 = true → S 4 = false → rh1 = .own (tyInt .i64) 3 ao197 cap198 fsizes) ∧ (S 4 = true → rh1 = .nil) ∧ (S 4 = true → SlR (tyInt .i64) Z221 ao197 cap198 fsizes)) ?h0 ?hs ?hE)
     case h0 =>
      have hF223 := hF192.any 70
      have hF224 := hF223.any 71
      have hF225 := hF224.any 72
      have hF226 := hF225.any 73
      have hF227 := hF226.any 74
      have hF228 := hF227.any 75
      have hF229 := hF228.any 76
      have hM230 := hM10.nilRes
      have hM231 := (hM230.perm ((pk 1 rfl).trans ((List.Perm.refl _).cons _))).drew
      exact ⟨none, 0, a183.tmps.getD 70 undef, a183.tmps.getD 71 undef, a183.tmps.getD 72 undef, a183.tmps.getD 73 undef, a183.tmps.getD 74 undef, a183.tmps.getD 75 undef, a183.tmps.getD 76 undef, .row b6 [.int .i64 u0.ID, .bool u0.Long, .bool u0.Fast, .bool u0.Remote, .int .i64 u0.Size, .slice ao1 u0.Data.length cap2] 38, .nil, Z, Fz.le.refl _, hF229.region (by kernel_rfl) (by kernel_rfl), hM231, ff, ff, ff, ff, ff, ff, ff, rfl, kf, ff, ff, ff⟩
     case hs =>
      intro S hcl i o hil hi hSi hpre a w1 hI; refine hid ?_; intro G hG; obtain ⟨ao197, hI⟩ := hI; obtain ⟨cap198, hI⟩ := hI; obtain ⟨ud70, hI⟩ := hI; obtain ⟨ud71, hI⟩ := hI; obtain ⟨ud72, hI⟩ := hI; obtain ⟨ud73, hI⟩ := hI; obtain ⟨ud74, hI⟩ := hI; obtain ⟨ud75, hI⟩ := hI; obtain ⟨ud76, hI⟩ := hI; obtain ⟨rh0, hI⟩ := hI; obtain ⟨rh1, hI⟩ := hI; obtain ⟨Z221, hI⟩ := hI; obtain ⟨hle222, hI⟩ := hI; obtain ⟨hFx, hI⟩ := hI; obtain ⟨hMx, hI⟩ := hI; obtain ⟨cu70, hI⟩ := hI; obtain ⟨cu71, hI⟩ := hI; obtain ⟨cu72, hI⟩ := hI; obtain ⟨cu73, hI⟩ := hI; obtain ⟨cu74, hI⟩ := hI; obtain ⟨cu75, hI⟩ := hI; obtain ⟨cu76, hI⟩ := hI; obtain ⟨cr0_0, hI⟩ := hI; obtain ⟨cr1_0, hI⟩ := hI; obtain ⟨cr1_1, hI⟩ := hI; obtain ⟨cr1_2, hI⟩ := hI; have cf0 := hI; clear hI
      have hcase : i = 0 ∨ i = 1 ∨ i = 2 ∨ i = 3 ∨ i = 4 ∨ i = 5 ∨ i = 6 := by clear hi; omega
      rcases hcase with rfl | rfl | rfl | rfl | rfl | rfl | rfl
      · -- 0: call
       obtain rfl := Option.some.inj hi
       have hx0 := hSi
       have hx4 := negF hcl 4 0 (by kernel_rfl) hx0
       have hx5 := negF hcl 5 4 (by kernel_rfl) hx4
       have hx6 := negF hcl 6 4 (by kernel_rfl) hx4
       obtain rfl := cr0_0
       obtain rfl := cr1_0 hx0
       refine hG (any_step ?_); clear hG G; intro A J hJ
       have hle0 := Fz.le.trans hle0 hle222
       have hzst := Fz.le.refl Z221
       have hs232 := hs3.mono hle222
       have hM233 := hMx.keep (List.Sublist.cons_cons _ (List.Sublist.cons _ (List.Sublist.slnil))); clear hMx
       refine cl hFx 64 #[] (nog rfl _) rfl (by kernel_rfl) (by kernel_rfl) ?_
       refine (fsizes_fun  _ _ hM233.fz).mono ?_; rintro _ wd234 ⟨ao238, cap239, Z240, rfl, hm⟩; refine ⟨_, rfl, ?_⟩; intro a235 hF236; have hM237 := hM233.callZ hm; have hle241 := hm.ext.le; clear hm hM233 hFx
       replace hzst := hzst.mono hle241
       replace hs232 := hs232.mono hle241
       replace hle0 := Fz.le.trans hle0 hle241
       have hM242 : Mem w.heap.size [] w Z [.own (tyInt .i64) 3 ao238 cap239 fsizes, .row b6 [.int .i64 u0.ID, .bool u0.Long, .bool u0.Fast, .bool u0.Remote, .int .i64 u0.Size, .slice ao1 u0.Data.length cap2] 38] Z240 wd234 := hM237; clear hM237
       refine nl (qnI (hJ _ _ ?_)); clear hJ J
       exact ⟨ao238, cap239, ud70, .slice ao238 fsizes.length cap239, ud72, ud73, ud74, ud75, ud76, .row b6 [.int .i64 u0.ID, .bool u0.Long, .bool u0.Fast, .bool u0.Remote, .int .i64 u0.Size, .slice ao1 u0.Data.length cap2] 38, .own (tyInt .i64) 3 ao238 cap239 fsizes, Z240, hle222.trans hzst, hF236.region (by kernel_rfl) (by kernel_rfl), hM242.perm ((pk 1 rfl).trans ((List.Perm.refl _).cons _)), (nt hx6), kf, cu72, cu73, cu74, (nt hx4), (nt hx5), rfl, nu, kf2, (nt hx4), (nt hx4)⟩
      · -- 1: fieldAddr
       obtain rfl := Option.some.inj hi
       have hx1 := hSi
       have hx2 := negF hcl 2 1 (by kernel_rfl) hx1
       have hx3 := negF hcl 3 2 (by kernel_rfl) hx2
       have hx4 := negF hcl 4 3 (by kernel_rfl) hx3
       have hx5 := negF hcl 5 4 (by kernel_rfl) hx4
       have hx6 := negF hcl 6 4 (by kernel_rfl) hx4
       obtain rfl := cr0_0
       refine hG (any_step ?_); clear hG G; intro A J hJ
       have hle0 := Fz.le.trans hle0 hle222
       have hzst := Fz.le.refl Z221
       have hs244 := hs3.mono hle222
       refine s1 hFx 72 (.pointer (some ⟨b6, 5, none⟩)) ?_; intro a245 hF246; clear hFx
       refine nl (qnI (hJ _ _ ?_)); clear hJ J
       exact ⟨ao197, cap198, ud70, ud71, .pointer (some ⟨b6, 5, none⟩), ud73, ud74, ud75, ud76, .row b6 [.int .i64 u0.ID, .bool u0.Long, .bool u0.Fast, .bool u0.Remote, .int .i64 u0.Size, .slice ao1 u0.Data.length cap2] 38, rh1, Z221, hle222, hF246.region (by kernel_rfl) (by kernel_rfl), hMx.perm (List.Perm.refl _), (nt hx6), cu71, kf, (nt hx2), (nt hx3), (nt hx4), (nt hx5), rfl, cr1_0, cr1_1, (nt hx4), (nt hx4)⟩
      · -- 2: load
       obtain rfl := Option.some.inj hi
       have hx1 := hpre 1 (by kernel_rfl)
       have hx2 := hSi
       have hx3 := negF hcl 3 2 (by kernel_rfl) hx2
       have hx4 := negF hcl 4 3 (by kernel_rfl) hx3
       have hx5 := negF hcl 5 4 (by kernel_rfl) hx4
       have hx6 := negF hcl 6 4 (by kernel_rfl) hx4
       obtain rfl := cu72 hx1
       obtain rfl := cr0_0
       refine hG (any_step ?_); clear hG G; intro A J hJ
       have hle0 := Fz.le.trans hle0 hle222
       have hzst := Fz.le.refl Z221
       have hs248 := hs3.mono hle222
       refine l1 hFx hMx 73 0 5 (.slice ao1 u0.Data.length cap2) rfl rfl ?_; intro a249 hF250; clear hFx
       refine nl (qnI (hJ _ _ ?_)); clear hJ J
       exact ⟨ao197, cap198, ud70, ud71, .pointer (some ⟨b6, 5, none⟩), .slice ao1 u0.Data.length cap2, ud74, ud75, ud76, .row b6 [.int .i64 u0.ID, .bool u0.Long, .bool u0.Fast, .bool u0.Remote, .int .i64 u0.Size, .slice ao1 u0.Data.length cap2] 38, rh1, Z221, hle222, hF250.region (by kernel_rfl) (by kernel_rfl), hMx.perm (List.Perm.refl _), (nt hx6), cu71, kf, kf, (nt hx3), (nt hx4), (nt hx5), rfl, cr1_0, cr1_1, (nt hx4), (nt hx4)⟩
      · -- 3: call
       obtain rfl := Option.some.inj hi
       have hx2 := hpre 2 (by kernel_rfl)
       have hx1 := hcl 2 1 (by kernel_rfl) hx2
       have hx3 := hSi
       have hx4 := negF hcl 4 3 (by kernel_rfl) hx3
       have hx5 := negF hcl 5 4 (by kernel_rfl) hx4
       have hx6 := negF hcl 6 4 (by kernel_rfl) hx4
       obtain rfl := cu72 hx1
       obtain rfl := cu73 hx2
       obtain rfl := cr0_0
       refine hG (any_step ?_); clear hG G; intro A J hJ
       have hle0 := Fz.le.trans hle0 hle222
       have hzst := Fz.le.refl Z221
       have hs252 := hs3.mono hle222
       refine s1 hFx 74 (.int .i64 (u0.Data.length : Int)) ?_; intro a253 hF254; clear hFx
       refine nl (qnI (hJ _ _ ?_)); clear hJ J
       exact ⟨ao197, cap198, ud70, ud71, .pointer (some ⟨b6, 5, none⟩), .slice ao1 u0.Data.length cap2, .int .i64 (u0.Data.length : Int), ud75, ud76, .row b6 [.int .i64 u0.ID, .bool u0.Long, .bool u0.Fast, .bool u0.Remote, .int .i64 u0.Size, .slice ao1 u0.Data.length cap2] 38, rh1, Z221, hle222, hF254.region (by kernel_rfl) (by kernel_rfl), hMx.perm (List.Perm.refl _), (nt hx6), cu71, kf, kf, kf, (nt hx4), (nt hx5), rfl, cr1_0, cr1_1, (nt hx4), (nt hx4)⟩
      · -- 4: call
       obtain rfl := Option.some.inj hi
       have hx3 := hpre 3 (by kernel_rfl)
       have hx0 := hpre 0 (by kernel_rfl)
       have hx2 := hcl 3 2 (by kernel_rfl) hx3
       have hx1 := hcl 2 1 (by kernel_rfl) hx2
       have hx4 := hSi
       have hx5 := negF hcl 5 4 (by kernel_rfl) hx4
       have hx6 := negF hcl 6 4 (by kernel_rfl) hx4
       obtain rfl := cu71 hx0
       obtain rfl := cu72 hx1
       obtain rfl := cu73 hx2
       obtain rfl := cu74 hx3
       obtain rfl := cr0_0
       obtain rfl := cr1_1 hx0 hx4
       refine hG (any_step ?_); clear hG G; intro A J hJ
       have hle0 := Fz.le.trans hle0 hle222
       have hzst := Fz.le.refl Z221
       have hs256 := hs3.mono hle222
       obtain ⟨Z257, hle258, hM259, hs260⟩ := hMx.freeze 1 rfl
       replace hzst := hzst.mono hle258
       replace hs256 := hs256.mono hle258
       replace hle0 := Fz.le.trans hle0 hle258
       have hM261 : Mem w.heap.size [] w Z [.row b6 [.int .i64 u0.ID, .bool u0.Long, .bool u0.Fast, .bool u0.Remote, .int .i64 u0.Size, .slice ao1 u0.Data.length cap2] 38] Z257 w1 := hM259; clear hM259
       refine fcl hFx hM261 (.bool (scontainsS fsizes (u0.Data.length : Int))) 54 #[.slice ao197 fsizes.length cap198, .int .i64 (u0.Data.length : Int)] (nog rfl _) rfl (by kernel_rfl) (fun _ => by kernel_rfl) (scontains_fun fsizes (u0.Data.length : Int) ao197 cap198 _ _ hs260 hM261.fz) ?_; intro a262 wd264 hF263 hM265; clear hFx hM261
       refine nl (qnI (hJ _ _ ?_)); clear hJ J
       have hM266 := hM265.nilRes
       exact ⟨ao197, cap198, ud70, .slice ao197 fsizes.length cap198, .pointer (some ⟨b6, 5, none⟩), .slice ao1 u0.Data.length cap2, .int .i64 (u0.Data.length : Int), .bool (scontainsS fsizes (u0.Data.length : Int)), ud76, .row b6 [.int .i64 u0.ID, .bool u0.Long, .bool u0.Fast, .bool u0.Remote, .int .i64 u0.Size, .slice ao1 u0.Data.length cap2] 38, .nil, Z257, hle222.trans hzst, hF263.region (by kernel_rfl) (by kernel_rfl), hM266.perm ((pk 1 rfl).trans ((List.Perm.refl _).cons _)), (nt hx6), kf, kf, kf, kf, kf, (nt hx5), rfl, (tn hx0), (fun _ => nu), kf, (fun _ => hs260)⟩
      · -- 5: unOp
       obtain rfl := Option.some.inj hi
       have hx4 := hpre 4 (by kernel_rfl)
       have hx3 := hcl 4 3 (by kernel_rfl) hx4
       have hx0 := hcl 4 0 (by kernel_rfl) hx4
       have hx2 := hcl 3 2 (by kernel_rfl) hx3
       have hx1 := hcl 2 1 (by kernel_rfl) hx2
       have hx5 := hSi
       have hx6 := negF hcl 6 5 (by kernel_rfl) hx5
       obtain rfl := cu71 hx0
       obtain rfl := cu72 hx1
       obtain rfl := cu73 hx2
       obtain rfl := cu74 hx3
       obtain rfl := cu75 hx4
       obtain rfl := cr0_0
       obtain rfl := cr1_2 hx4
       refine hG (any_step ?_); clear hG G; intro A J hJ
       have hle0 := Fz.le.trans hle0 hle222
       have hzst := Fz.le.refl Z221
       have hs268 := hs3.mono hle222
       have hs269 := cf0 hx4
       have hM270 := hMx.keep (List.Sublist.cons_cons _ (List.Sublist.cons _ (List.Sublist.slnil))); clear hMx
       refine s1 hFx 76 (.bool (!(scontainsS fsizes (u0.Data.length : Int)))) ?_; intro a271 hF272; clear hFx
       refine nl (qnI (hJ _ _ ?_)); clear hJ J
       have hM273 := hM270.nilRes
       exact ⟨ao197, cap198, ud70, .slice ao197 fsizes.length cap198, .pointer (some ⟨b6, 5, none⟩), .slice ao1 u0.Data.length cap2, .int .i64 (u0.Data.length : Int), .bool (scontainsS fsizes (u0.Data.length : Int)), .bool (!(scontainsS fsizes (u0.Data.length : Int))), .row b6 [.int .i64 u0.ID, .bool u0.Long, .bool u0.Fast, .bool u0.Remote, .int .i64 u0.Size, .slice ao1 u0.Data.length cap2] 38, .nil, Z221, hle222, hF272.region (by kernel_rfl) (by kernel_rfl), hM273.perm ((pk 1 rfl).trans ((List.Perm.refl _).cons _)), (nt hx6), kf, kf, kf, kf, kf, kf, rfl, (tn hx0), (fun _ => tn hx4), kf, (fun _ => hs269)⟩
      · -- 6: assign
       obtain rfl := Option.some.inj hi
       have hx5 := hpre 5 (by kernel_rfl)
       have hx4 := hpre 4 (by kernel_rfl)
       have hx3 := hcl 4 3 (by kernel_rfl) hx4
       have hx0 := hcl 4 0 (by kernel_rfl) hx4
       have hx2 := hcl 3 2 (by kernel_rfl) hx3
       have hx1 := hcl 2 1 (by kernel_rfl) hx2
       have hx6 := hSi
       obtain rfl := cu71 hx0
       obtain rfl := cu72 hx1
       obtain rfl := cu73 hx2
       obtain rfl := cu74 hx3
       obtain rfl := cu75 hx4
       obtain rfl := cu76 hx5
       obtain rfl := cr0_0
       obtain rfl := cr1_2 hx4
       refine hG (any_step ?_); clear hG G; intro A J hJ
       have hle0 := Fz.le.trans hle0 hle222
       have hzst := Fz.le.refl Z221
       have hs275 := hs3.mono hle222
       have hs276 := cf0 hx4
       have hM277 := hMx.keep (List.Sublist.cons_cons _ (List.Sublist.cons _ (List.Sublist.slnil))); clear hMx
       refine s1 hFx 70 (.bool (!(scontainsS fsizes (u0.Data.length : Int)))) ?_; intro a278 hF279; clear hFx
       refine nl (qnI (hJ _ _ ?_)); clear hJ J
       have hM280 := hM277.nilRes
       exact ⟨ao197, cap198, .bool (!(scontainsS fsizes (u0.Data.length : Int))), .slice ao197 fsizes.length cap198, .pointer (some ⟨b6, 5, none⟩), .slice ao1 u0.Data.length cap2, .int .i64 (u0.Data.length : Int), .bool (scontainsS fsizes (u0.Data.length : Int)), .bool (!(scontainsS fsizes (u0.Data.length : Int))), .row b6 [.int .i64 u0.ID, .bool u0.Long, .bool u0.Fast, .bool u0.Remote, .int .i64 u0.Size, .slice ao1 u0.Data.length cap2] 38, .nil, Z221, hle222, hF279.region (by kernel_rfl) (by kernel_rfl), hM280.perm ((pk 1 rfl).trans ((List.Perm.refl _).cons _)), kf, kf, kf, kf, kf, kf, kf, rfl, (tn hx0), (fun _ => tn hx4), kf, (fun _ => hs276)⟩
     case hE =>
      intro S hS a282 wd283 hI; refine hid ?_; intro G hG; obtain ⟨ao197, hI⟩ := hI; obtain ⟨cap198, hI⟩ := hI; obtain ⟨ud70, hI⟩ := hI; obtain ⟨ud71, hI⟩ := hI; obtain ⟨ud72, hI⟩ := hI; obtain ⟨ud73, hI⟩ := hI; obtain ⟨ud74, hI⟩ := hI; obtain ⟨ud75, hI⟩ := hI; obtain ⟨ud76, hI⟩ := hI; obtain ⟨rh0, hI⟩ := hI; obtain ⟨rh1, hI⟩ := hI; obtain ⟨Z221, hI⟩ := hI; obtain ⟨hle222, hI⟩ := hI; obtain ⟨hFx, hI⟩ := hI; obtain ⟨hMx, hI⟩ := hI; obtain ⟨cu70, hI⟩ := hI; obtain ⟨cu71, hI⟩ := hI; obtain ⟨cu72, hI⟩ := hI; obtain ⟨cu73, hI⟩ := hI; obtain ⟨cu74, hI⟩ := hI; obtain ⟨cu75, hI⟩ := hI; obtain ⟨cu76, hI⟩ := hI; obtain ⟨cr0_0, hI⟩ := hI; obtain ⟨cr1_0, hI⟩ := hI; obtain ⟨cr1_1, hI⟩ := hI; obtain ⟨cr1_2, hI⟩ := hI; have cf0 := hI; clear hI; refine hG ?_; clear hG G
      obtain rfl := cu70 (hS 6 (by decide))
      obtain rfl := cu71 (hS 0 (by decide))
      obtain rfl := cu72 (hS 1 (by decide))
      obtain rfl := cu73 (hS 2 (by decide))
      obtain rfl := cu74 (hS 3 (by decide))
      obtain rfl := cu75 (hS 4 (by decide))
      obtain rfl := cu76 (hS 5 (by decide))
      obtain rfl := cr0_0
      obtain rfl := cr1_2 (hS 4 (by decide))
      have hle0 := Fz.le.trans hle0 hle222
      have hs284 := hs3.mono hle222
      have hs285 := cf0 (hS 4 (by decide))
      have hMx := hMx.keep (List.Sublist.cons_cons _ (List.Sublist.cons _ (List.Sublist.slnil)))
      refine thn ?_
      refine cd hFx (t := !(scontainsS fsizes (u0.Data.length : Int))) (by kernel_rfl) (fun hb286 => ?_) (fun hb286 => ?_)
      · -- yes
       have hp287 := hp191.1 hb286; clear hp191
       have hF288 : Fr 77 [] [] a282 := hFx.region (by kernel_rfl) (by kernel_rfl); clear hFx
       refine sqH ?_; intro hQ289Q hQ289
       refine s1 hF288 2 (.int .i64 4) ?_; intro a290 hF291; clear hF288
       refine nlH (hQ289 _ _ ?_); clear hQ289 hQ289Q
       refine wp_ret ?_
       refine ibr ?_
       refine thr ?_
       refine rt (fn := Try.f52) (v := .int .i64 4) hF291 (re1 hF291 (fn := Try.f52) rfl (by kernel_rfl)) ?_
       exact ⟨4, rfl, hp287, hMx.below⟩
      · -- no
       have hp292 := hp191.2 hb286; clear hp191
       refine wp_skip ?_
       refine ibn ?_
       refine thn ?_
       have hF293 : Fr 77 [] [] a282 := hFx.region (by kernel_rfl) (by kernel_rfl); clear hFx
       refine sqH ?_; intro hQ294Q hQ294
       refine s1 hF293 2 (.int .i64 0) ?_; intro a295 hF296; clear hF293
       refine nlH (hQ294 _ _ ?_); clear hQ294 hQ294Q
       refine wp_ret ?_
       refine rt (fn := Try.f52) (v := .int .i64 0) hF296 (re1 hF296 (fn := Try.f52) rfl (by kernel_rfl)) ?_
       exact ⟨0, rfl, hp292, hMx.below⟩
theorem fcheckfr_fun (u0 : Frame) (ao1 : Option Addr) (cap2 : Nat) (Z : Fz) (w : World) (hs3 : SlR (tyInt .u8) Z ao1 cap2 u0.Data) (hZ : Z.on w) : Calls Try.prog 52 #[.agg #[.int .i64 u0.ID, .bool u0.Long, .bool u0.Fast, .bool u0.Remote, .int .i64 u0.Size, .slice ao1 u0.Data.length cap2]] w fun e w' => e = .returned (.int .i64 (fcheckfr u0)) ∧ Below w.heap.size w w' :=
  (fcheckfr_walk u0 ao1 cap2 Z w hs3 hZ (fcheckfr_ok u0)).mono fun _ _ ⟨r, he, hk, hb⟩ => ⟨by subst hk; exact he, hb⟩

set_option maxRecDepth 100000 in
theorem rcheckfr_walk (u0 : Frame) (ao1 : Option Addr) (cap2 : Nat) (Z : Fz) (w : World) (hs3 : SlR (tyInt .u8) Z ao1 cap2 u0.Data) (hZ : Z.on w) {K : Int → Prop} (hp : rcheckfr_vc u0 K) : Calls Try.prog 27 #[.agg #[.int .i64 u0.ID, .bool u0.Long, .bool u0.Fast, .bool u0.Remote, .int .i64 u0.Size, .slice ao1 u0.Data.length cap2]] w fun e w' => ∃ r : Int, e = .returned (.int .i64 r) ∧ K r ∧ Below w.heap.size w w' := by
 refine enter0 Try.func27 rfl rfl (by kernel_rfl) ?_; intro a0 hF0; have hM0 := Mem.start w Z hZ; have hle0 := Fz.le.refl Z
 have hp4 := hp (hs3.small); clear hp
 refine sqH ?_; intro hQ5Q hQ5
 refine sn hF0 hM0 (fun b => .pointer (some ⟨b, 0, none⟩)) [.int .i64 u0.ID, .bool u0.Long, .bool u0.Fast, .bool u0.Remote, .int .i64 u0.Size, .slice ao1 u0.Data.length cap2] 38 (nog rfl _) rfl (by kernel_rfl) (by kernel_rfl) ?_; intro b6 a7 wd9 hF8 hM10; clear hF0 hM0
 refine s1 hF8 2 (.int .i64 0) ?_; intro a11 hF12; clear hF8
 refine nlH (hQ5 _ _ ?_); clear hQ5 hQ5Q
 refine sqH ?_; intro hQ13Q hQ13
 refine s1 hF12 3 (.int .i64 2047) ?_; intro a14 hF15; clear hF12
 refine nlH (hQ13 _ _ ?_); clear hQ13 hQ13Q
 refine wp_seq ?_
 refine sqH ?_; intro hQ16Q hQ16
 refine s1 hF15 4 (.pointer (some ⟨b6, 1, none⟩)) ?_; intro a17 hF18; clear hF15
 refine l1 hF18 hM10 5 0 1 (.bool u0.Long) rfl rfl ?_; intro a19 hF20; clear hF18
 refine nlH (hQ16 _ _ ?_); clear hQ16 hQ16Q
 refine cd hF20 (t := u0.Long) (by kernel_rfl) (fun hb21 => ?_) (fun hb21 => ?_)
 · -- yes
  have hp22 := hp4.1 hb21; clear hp4
  refine rgH ?_; intro hQ23Q hQ23
  refine s1 hF20 3 (.int .i64 536870911) ?_; intro a24 hF25; clear hF20
  refine nlH (hQ23 _ _ ?_); clear hQ23 hQ23Q
  refine thn ?_
  refine wp_seq ?_
  refine sqH ?_; intro hQ26Q hQ26
  refine s1 hF25 6 (.pointer (some ⟨b6, 0, none⟩)) ?_; intro a27 hF28; clear hF25
  refine l1 hF28 hM10 7 0 0 (.int .i64 u0.ID) rfl rfl ?_; intro a29 hF30; clear hF28
  refine s1 hF30 8 (.bool (decide (u0.ID < 0))) ?_; intro a31 hF32; clear hF30
  refine s1 hF32 9 (.bool (decide (u0.ID < 0))) ?_; intro a33 hF34; clear hF32
  have hF35 := hF34.atom ((decide (u0.ID < 0)) == false) (by kernel_rfl); clear hF34
  refine gp hF35 10 0 [] (decide (u0.ID < 0)) (.pointer (some ⟨b6, 0, none⟩)) rfl rfl ?_; intro a36 hF37; clear hF35
  refine gd hF37 (.int .i64 u0.ID) (m := 0) (cj := []) (bj := decide (u0.ID < 0)) rfl rfl (by kernel_rfl) rfl (by kernel_rfl) (by kernel_rfl) (by kernel_rfl) (fun hg => ld hF37 hM10 0 (g := [0]) (b := b6) (off := 0) (cs := [.int .i64 u0.ID, .bool u0.Long, .bool u0.Fast, .bool u0.Remote, .int .i64 u0.Size, .slice ao1 u0.Data.length cap2]) (ty := 38) rfl (by kernel_rfl) (by kernel_rfl) (by kernel_rfl) (by kernel_rfl) hg) ?_; intro a38 hF39; clear hF37
  refine gp hF39 12 0 [] (decide (u0.ID < 0)) (.int .i64 536870911) rfl rfl ?_; intro a40 hF41; clear hF39
  refine gp hF41 13 0 [] (decide (u0.ID < 0)) (.bool (decide (u0.ID > 536870911))) rfl rfl ?_; intro a42 hF43; clear hF41
  refine st hF43 (.bool ((decide (u0.ID < 0)) || (decide (u0.ID > 536870911)))) (nog rfl _) rfl (by kernel_rfl) (pk_or hF43 (g := []) (m := 0) (b := decide (u0.ID < 0)) (v := decide (u0.ID > 536870911)) rfl (by kernel_rfl) (by kernel_rfl) (by kernel_rfl) rfl) ?_; intro a44 hF45; clear hF43
  refine nlH (hQ26 _ _ ?_); clear hQ26 hQ26Q
  refine cd hF45 (t := (decide (u0.ID < 0)) || (decide (u0.ID > 536870911))) (by kernel_rfl) (fun hb46 => ?_) (fun hb46 => ?_)
  · -- yes
   have hp47 := hp22.1 hb46; clear hp22
   have hF48 : Fr 66 [] [] a44 := hF45.region (by kernel_rfl) (by kernel_rfl); clear hF45
   refine sqH ?_; intro hQ49Q hQ49
   refine s1 hF48 2 (.int .i64 3) ?_; intro a50 hF51; clear hF48
   refine nlH (hQ49 _ _ ?_); clear hQ49 hQ49Q
   refine wp_ret ?_
   refine thr ?_
   refine rt (fn := Try.f27) (v := .int .i64 3) hF51 (re1 hF51 (fn := Try.f27) rfl (by kernel_rfl)) ?_
   exact ⟨3, rfl, hp47, hM10.below⟩
  · -- no
   have hp52 := hp22.2 hb46; clear hp22
   refine wp_skip ?_
   refine thn ?_
   refine wp_seq ?_
   have hF53 : Fr 66 [] [⟨1, [], .pointer (some ⟨b6, 0, none⟩)⟩] a44 := hF45.region (by kernel_rfl) (by kernel_rfl); clear hF45
   refine sqH ?_; intro hQ54Q hQ54
   refine s1 hF53 15 (.pointer (some ⟨b6, 3, none⟩)) ?_; intro a55 hF56; clear hF53
   refine l1 hF56 hM10 16 0 3 (.bool u0.Remote) rfl rfl ?_; intro a57 hF58; clear hF56
   refine s1 hF58 17 (.bool u0.Remote) ?_; intro a59 hF60; clear hF58
   have hF61 := hF60.atom (u0.Remote == true) (by kernel_rfl); clear hF60
   refine gp hF61 18 0 [] (u0.Remote) (.pointer (some ⟨b6, 2, none⟩)) rfl rfl ?_; intro a62 hF63; clear hF61
   refine gd hF63 (.bool u0.Fast) (m := 0) (cj := []) (bj := u0.Remote) rfl rfl (by kernel_rfl) rfl (by kernel_rfl) (by kernel_rfl) (by kernel_rfl) (fun hg => ld hF63 hM10 0 (g := [0]) (b := b6) (off := 2) (cs := [.int .i64 u0.ID, .bool u0.Long, .bool u0.Fast, .bool u0.Remote, .int .i64 u0.Size, .slice ao1 u0.Data.length cap2]) (ty := 38) rfl (by kernel_rfl) (by kernel_rfl) (by kernel_rfl) (by kernel_rfl) hg) ?_; intro a64 hF65; clear hF63
   refine gp hF65 20 0 [] (u0.Remote) (.bool u0.Fast) rfl rfl ?_; intro a66 hF67; clear hF65
   have hF68 := hF67.atom (u0.Fast == false) (by kernel_rfl); clear hF67
   refine gp hF68 21 1 [0] (u0.Fast) (.pointer (some ⟨b6, 5, none⟩)) rfl rfl ?_; intro a69 hF70; clear hF68
   refine gd hF70 (.slice ao1 u0.Data.length cap2) (m := 1) (cj := [0]) (bj := u0.Fast) rfl rfl (by kernel_rfl) rfl (by kernel_rfl) (by kernel_rfl) (by kernel_rfl) (fun hg => ld hF70 hM10 0 (g := [1, 0]) (b := b6) (off := 5) (cs := [.int .i64 u0.ID, .bool u0.Long, .bool u0.Fast, .bool u0.Remote, .int .i64 u0.Size, .slice ao1 u0.Data.length cap2]) (ty := 38) rfl (by kernel_rfl) (by kernel_rfl) (by kernel_rfl) (by kernel_rfl) hg) ?_; intro a71 hF72; clear hF70
   refine gp hF72 23 1 [0] (u0.Fast) (.int .i64 (u0.Data.length : Int)) rfl rfl ?_; intro a73 hF74; clear hF72
   refine gp hF74 24 1 [0] (u0.Fast) (.bool ((u0.Data.length : Int) != 0)) rfl rfl ?_; intro a75 hF76; clear hF74
   refine gd hF76 (.bool (u0.Fast || ((u0.Data.length : Int) != 0))) (m := 0) (cj := []) (bj := u0.Remote) rfl rfl (by kernel_rfl) rfl (by kernel_rfl) (by kernel_rfl) (by kernel_rfl) (fun hg => pk_or hF76 (g := [0]) (m := 1) (b := u0.Fast) (v := (u0.Data.length : Int) != 0) rfl (by kernel_rfl) (by kernel_rfl) (by kernel_rfl) hg) ?_; intro a77 hF78; clear hF76
   refine st hF78 (.bool (u0.Remote && (u0.Fast || ((u0.Data.length : Int) != 0)))) (nog rfl _) rfl (by kernel_rfl) (pk_and hF78 (g := []) (m := 0) (b := u0.Remote) (v := u0.Fast || ((u0.Data.length : Int) != 0)) rfl (by kernel_rfl) (by kernel_rfl) (by kernel_rfl) rfl) ?_; intro a79 hF80; clear hF78
   refine nlH (hQ54 _ _ ?_); clear hQ54 hQ54Q
   refine cd hF80 (t := u0.Remote && (u0.Fast || ((u0.Data.length : Int) != 0))) (by kernel_rfl) (fun hb81 => ?_) (fun hb81 => ?_)
   · -- yes
    have hp82 := hp52.1 hb81; clear hp52
    have hF83 : Fr 66 [] [] a79 := hF80.region (by kernel_rfl) (by kernel_rfl); clear hF80
    refine sqH ?_; intro hQ84Q hQ84
    refine s1 hF83 2 (.int .i64 4) ?_; intro a85 hF86; clear hF83
    refine nlH (hQ84 _ _ ?_); clear hQ84 hQ84Q
    refine wp_ret ?_
    refine thr ?_
    refine rt (fn := Try.f27) (v := .int .i64 4) hF86 (re1 hF86 (fn := Try.f27) rfl (by kernel_rfl)) ?_
    exact ⟨4, rfl, hp82, hM10.below⟩
   · -- no
    have hp87 := hp52.2 hb81; clear hp52
    refine wp_skip ?_
    refine thn ?_
    refine wp_seq ?_
    have hF88 : Fr 66 [] [⟨1, [], .pointer (some ⟨b6, 0, none⟩)⟩] a79 := hF80.region (by kernel_rfl) (by kernel_rfl); clear hF80
    refine sqH ?_; intro hQ89Q hQ89
    refine s1 hF88 27 (.pointer (some ⟨b6, 4, none⟩)) ?_; intro a90 hF91; clear hF88
    refine l1 hF91 hM10 28 0 4 (.int .i64 u0.Size) rfl rfl ?_; intro a92 hF93; clear hF91
    refine s1 hF93 29 (.bool (decide (u0.Size < 0))) ?_; intro a94 hF95; clear hF93
    refine s1 hF95 30 (.bool (decide (u0.Size < 0))) ?_; intro a96 hF97; clear hF95
    have hF98 := hF97.atom ((decide (u0.Size < 0)) == false) (by kernel_rfl); clear hF97
    refine gp hF98 31 0 [] (decide (u0.Size < 0)) (.pointer (some ⟨b6, 4, none⟩)) rfl rfl ?_; intro a99 hF100; clear hF98
    refine gd hF100 (.int .i64 u0.Size) (m := 0) (cj := []) (bj := decide (u0.Size < 0)) rfl rfl (by kernel_rfl) rfl (by kernel_rfl) (by kernel_rfl) (by kernel_rfl) (fun hg => ld hF100 hM10 0 (g := [0]) (b := b6) (off := 4) (cs := [.int .i64 u0.ID, .bool u0.Long, .bool u0.Fast, .bool u0.Remote, .int .i64 u0.Size, .slice ao1 u0.Data.length cap2]) (ty := 38) rfl (by kernel_rfl) (by kernel_rfl) (by kernel_rfl) (by kernel_rfl) hg) ?_; intro a101 hF102; clear hF100
    refine gp hF102 33 0 [] (decide (u0.Size < 0)) (.bool (decide (u0.Size > 8))) rfl rfl ?_; intro a103 hF104; clear hF102
    refine st hF104 (.bool ((decide (u0.Size < 0)) || (decide (u0.Size > 8)))) (nog rfl _) rfl (by kernel_rfl) (pk_or hF104 (g := []) (m := 0) (b := decide (u0.Size < 0)) (v := decide (u0.Size > 8)) rfl (by kernel_rfl) (by kernel_rfl) (by kernel_rfl) rfl) ?_; intro a105 hF106; clear hF104
    refine s1 hF106 35 (.bool ((decide (u0.Size < 0)) || (decide (u0.Size > 8)))) ?_; intro a107 hF108; clear hF106
    have hF109 := hF108.atom (((decide (u0.Size < 0)) || (decide (u0.Size > 8))) == false) (by kernel_rfl); clear hF108
    refine gp hF109 36 1 [] ((decide (u0.Size < 0)) || (decide (u0.Size > 8))) (.pointer (some ⟨b6, 4, none⟩)) rfl rfl ?_; intro a110 hF111; clear hF109
    refine gd hF111 (.int .i64 u0.Size) (m := 1) (cj := []) (bj := (decide (u0.Size < 0)) || (decide (u0.Size > 8))) rfl rfl (by kernel_rfl) rfl (by kernel_rfl) (by kernel_rfl) (by kernel_rfl) (fun hg => ld hF111 hM10 0 (g := [1]) (b := b6) (off := 4) (cs := [.int .i64 u0.ID, .bool u0.Long, .bool u0.Fast, .bool u0.Remote, .int .i64 u0.Size, .slice ao1 u0.Data.length cap2]) (ty := 38) rfl (by kernel_rfl) (by kernel_rfl) (by kernel_rfl) (by kernel_rfl) hg) ?_; intro a112 hF113; clear hF111
    refine gp hF113 38 1 [] ((decide (u0.Size < 0)) || (decide (u0.Size > 8))) (.bool (decide (u0.Size > 0))) rfl rfl ?_; intro a114 hF115; clear hF113
    refine gp hF115 39 1 [] ((decide (u0.Size < 0)) || (decide (u0.Size > 8))) (.bool (decide (u0.Size > 0))) rfl rfl ?_; intro a116 hF117; clear hF115
    have hF118 := hF117.atom ((decide (u0.Size > 0)) == true) (by kernel_rfl); clear hF117
    refine gp hF118 40 2 [1] (decide (u0.Size > 0)) (.pointer (some ⟨b6, 3, none⟩)) rfl rfl ?_; intro a119 hF120; clear hF118
    refine gd hF120 (.bool u0.Remote) (m := 2) (cj := [1]) (bj := decide (u0.Size > 0)) rfl rfl (by kernel_rfl) rfl (by kernel_rfl) (by kernel_rfl) (by kernel_rfl) (fun hg => ld hF120 hM10 0 (g := [2, 1]) (b := b6) (off := 3) (cs := [.int .i64 u0.ID, .bool u0.Long, .bool u0.Fast, .bool u0.Remote, .int .i64 u0.Size, .slice ao1 u0.Data.length cap2]) (ty := 38) rfl (by kernel_rfl) (by kernel_rfl) (by kernel_rfl) (by kernel_rfl) hg) ?_; intro a121 hF122; clear hF120
    refine gp hF122 42 2 [1] (decide (u0.Size > 0)) (.bool (!u0.Remote)) rfl rfl ?_; intro a123 hF124; clear hF122
    refine gd hF124 (.bool ((decide (u0.Size > 0)) && (!u0.Remote))) (m := 1) (cj := []) (bj := (decide (u0.Size < 0)) || (decide (u0.Size > 8))) rfl rfl (by kernel_rfl) rfl (by kernel_rfl) (by kernel_rfl) (by kernel_rfl) (fun hg => pk_and hF124 (g := [1]) (m := 2) (b := decide (u0.Size > 0)) (v := !u0.Remote) rfl (by kernel_rfl) (by kernel_rfl) (by kernel_rfl) hg) ?_; intro a125 hF126; clear hF124
    refine st hF126 (.bool (((decide (u0.Size < 0)) || (decide (u0.Size > 8))) || ((decide (u0.Size > 0)) && (!u0.Remote)))) (nog rfl _) rfl (by kernel_rfl) (pk_or hF126 (g := []) (m := 1) (b := (decide (u0.Size < 0)) || (decide (u0.Size > 8))) (v := (decide (u0.Size > 0)) && (!u0.Remote)) rfl (by kernel_rfl) (by kernel_rfl) (by kernel_rfl) rfl) ?_; intro a127 hF128; clear hF126
    refine nlH (hQ89 _ _ ?_); clear hQ89 hQ89Q
    refine cd hF128 (t := ((decide (u0.Size < 0)) || (decide (u0.Size > 8))) || ((decide (u0.Size > 0)) && (!u0.Remote))) (by kernel_rfl) (fun hb129 => ?_) (fun hb129 => ?_)
    · -- yes
     have hp130 := hp87.1 hb129; clear hp87
     have hF131 : Fr 66 [] [] a127 := hF128.region (by kernel_rfl) (by kernel_rfl); clear hF128
     refine sqH ?_; intro hQ132Q hQ132
     refine s1 hF131 2 (.int .i64 3) ?_; intro a133 hF134; clear hF131
     refine nlH (hQ132 _ _ ?_); clear hQ132 hQ132Q
     refine wp_ret ?_
     refine thr ?_
     refine rt (fn := Try.f27) (v := .int .i64 3) hF134 (re1 hF134 (fn := Try.f27) rfl (by kernel_rfl)) ?_
     exact ⟨3, rfl, hp130, hM10.below⟩
    · -- no
     have hp135 := hp87.2 hb129; clear hp87
     refine wp_skip ?_
     refine thn ?_
     refine wp_seq ?_
     have hF136 : Fr 66 [] [⟨1, [], .pointer (some ⟨b6, 0, none⟩)⟩] a127 := hF128.region (by kernel_rfl) (by kernel_rfl); clear hF128
     refine sqH ?_; intro hQ137Q hQ137
     refine s1 hF136 45 (.pointer (some ⟨b6, 5, none⟩)) ?_; intro a138 hF139; clear hF136
     refine l1 hF139 hM10 46 0 5 (.slice ao1 u0.Data.length cap2) rfl rfl ?_; intro a140 hF141; clear hF139
     refine s1 hF141 47 (.int .i64 (u0.Data.length : Int)) ?_; intro a142 hF143; clear hF141
     refine s1 hF143 48 (.bool (decide ((u0.Data.length : Int) > 64))) ?_; intro a144 hF145; clear hF143
     refine s1 hF145 49 (.bool (decide ((u0.Data.length : Int) > 64))) ?_; intro a146 hF147; clear hF145
     have hF148 := hF147.atom ((decide ((u0.Data.length : Int) > 64)) == false) (by kernel_rfl); clear hF147
     refine gp hF148 50 0 [] (decide ((u0.Data.length : Int) > 64)) (.pointer (some ⟨b6, 5, none⟩)) rfl rfl ?_; intro a149 hF150; clear hF148
     refine gd hF150 (.slice ao1 u0.Data.length cap2) (m := 0) (cj := []) (bj := decide ((u0.Data.length : Int) > 64)) rfl rfl (by kernel_rfl) rfl (by kernel_rfl) (by kernel_rfl) (by kernel_rfl) (fun hg => ld hF150 hM10 0 (g := [0]) (b := b6) (off := 5) (cs := [.int .i64 u0.ID, .bool u0.Long, .bool u0.Fast, .bool u0.Remote, .int .i64 u0.Size, .slice ao1 u0.Data.length cap2]) (ty := 38) rfl (by kernel_rfl) (by kernel_rfl) (by kernel_rfl) (by kernel_rfl) hg) ?_; intro a151 hF152; clear hF150
     refine gp hF152 52 0 [] (decide ((u0.Data.length : Int) > 64)) (.int .i64 (u0.Data.length : Int)) rfl rfl ?_; intro a153 hF154; clear hF152
     refine gp hF154 53 0 [] (decide ((u0.Data.length : Int) > 64)) (.bool (decide ((u0.Data.length : Int) > 8))) rfl rfl ?_; intro a155 hF156; clear hF154
     refine gp hF156 54 0 [] (decide ((u0.Data.length : Int) > 64)) (.bool (decide ((u0.Data.length : Int) > 8))) rfl rfl ?_; intro a157 hF158; clear hF156
     have hF159 := hF158.atom ((decide ((u0.Data.length : Int) > 8)) == true) (by kernel_rfl); clear hF158
     refine gp hF159 55 1 [0] (decide ((u0.Data.length : Int) > 8)) (.pointer (some ⟨b6, 2, none⟩)) rfl rfl ?_; intro a160 hF161; clear hF159
     refine gd hF161 (.bool u0.Fast) (m := 1) (cj := [0]) (bj := decide ((u0.Data.length : Int) > 8)) rfl rfl (by kernel_rfl) rfl (by kernel_rfl) (by kernel_rfl) (by kernel_rfl) (fun hg => ld hF161 hM10 0 (g := [1, 0]) (b := b6) (off := 2) (cs := [.int .i64 u0.ID, .bool u0.Long, .bool u0.Fast, .bool u0.Remote, .int .i64 u0.Size, .slice ao1 u0.Data.length cap2]) (ty := 38) rfl (by kernel_rfl) (by kernel_rfl) (by kernel_rfl) (by kernel_rfl) hg) ?_; intro a162 hF163; clear hF161
     refine gp hF163 57 1 [0] (decide ((u0.Data.length : Int) > 8)) (.bool (!u0.Fast)) rfl rfl ?_; intro a164 hF165; clear hF163
     refine gd hF165 (.bool ((decide ((u0.Data.length : Int) > 8)) && (!u0.Fast))) (m := 0) (cj := []) (bj := decide ((u0.Data.length : Int) > 64)) rfl rfl (by kernel_rfl) rfl (by kernel_rfl) (by kernel_rfl) (by kernel_rfl) (fun hg => pk_and hF165 (g := [0]) (m := 1) (b := decide ((u0.Data.length : Int) > 8)) (v := !u0.Fast) rfl (by kernel_rfl) (by kernel_rfl) (by kernel_rfl) hg) ?_; intro a166 hF167; clear hF165
     refine st hF167 (.bool ((decide ((u0.Data.length : Int) > 64)) || ((decide ((u0.Data.length : Int) > 8)) && (!u0.Fast)))) (nog rfl _) rfl (by kernel_rfl) (pk_or hF167 (g := []) (m := 0) (b := decide ((u0.Data.length : Int) > 64)) (v := (decide ((u0.Data.length : Int) > 8)) && (!u0.Fast)) rfl (by kernel_rfl) (by kernel_rfl) (by kernel_rfl) rfl) ?_; intro a168 hF169; clear hF167
     refine nlH (hQ137 _ _ ?_); clear hQ137 hQ137Q
     refine cd hF169 (t := (decide ((u0.Data.length : Int) > 64)) || ((decide ((u0.Data.length : Int) > 8)) && (!u0.Fast))) (by kernel_rfl) (fun hb170 => ?_) (fun hb170 => ?_)
     · -- yes
      have hp171 := hp135.1 hb170; clear hp135
      have hF172 : Fr 66 [] [] a168 := hF169.region (by kernel_rfl) (by kernel_rfl); clear hF169
      refine sqH ?_; intro hQ173Q hQ173
      refine s1 hF172 2 (.int .i64 2) ?_; intro a174 hF175; clear hF172
      refine nlH (hQ173 _ _ ?_); clear hQ173 hQ173Q
      refine wp_ret ?_
      refine thr ?_
      refine rt (fn := Try.f27) (v := .int .i64 2) hF175 (re1 hF175 (fn := Try.f27) rfl (by kernel_rfl)) ?_
      exact ⟨2, rfl, hp171, hM10.below⟩
     · -- no
      have hp176 := hp135.2 hb170; clear hp135
      refine wp_skip ?_
      refine thn ?_
      refine wp_seq ?_
      have hF177 : Fr 66 [] [⟨1, [], .pointer (some ⟨b6, 0, none⟩)⟩] a168 := hF169.region (by kernel_rfl) (by kernel_rfl); clear hF169
      refine wp_seq (any_invE mixed [[], [], [1], [2], [0, 3], [4]] 6 (fun S a w1 => ∃ (ao182 : Option Addr) (cap183 : Nat) (ud60 : Value) (ud61 : Value) (ud62 : Value) (ud63 : Value) (ud64 : Value) (ud65 : Value) (rh0 : Res) (rh1 : Res) (Z204 : Fz), Fz.le Z Z204 ∧ Fr 66 [] [⟨1, [], .pointer (some ⟨b6, 0, none⟩)⟩, ⟨60, [], ud60⟩, ⟨61, [], ud61⟩, ⟨62, [], ud62⟩, ⟨63, [], ud63⟩, ⟨64, [], ud64⟩, ⟨65, [], ud65⟩] a ∧ Mem w.heap.size [] w Z [rh0, rh1] Z204 w1 ∧ (S 0 = true → ud60 = .slice ao182 rsizes.length cap183) ∧ (S 1 = true → ud61 = .pointer (some ⟨b6, 5, none⟩)) ∧ (S 2 = true → ud62 = .slice ao1 u0.Data.length cap2) ∧ (S 3 = true → ud63 = .int .i64 (u0.Data.length : Int)) ∧ (S 4 = true → ud64 = .bool (scontainsS rsizes (u0.Data.length : Int))) ∧ (S 5 = true → ud65 = .bool (!(scontainsS rsizes (u0.Data.length : Int)))) ∧ (rh0 = .row b6 [.int .i64 u0.ID, .bool u0.Long, .bool u0.Fast, .bool u0.Remote, .int .i64 u0.Size, .slice ao1 u0.Data.length cap2] 38) ∧ (S 0 = false → rh1 = .nil) ∧ (S 0 = true → S 4 = false → rh1 = .own (tyInt .i64) 3 ao182 cap183 rsizes) ∧ (S 4 = true → rh1 = .nil) ∧ (S 4 = true → SlR (tyInt .i64) Z204 ao182 cap183 rsizes)) ?h0 ?hs ?hE)
      case h0 =>
       have hF206 := hF177.any 60
       have hF207 := hF206.any 61
       have hF208 := hF207.any 62
       have hF209 := hF208.any 63
       have hF210 := hF209.any 64
       have hF211 := hF210.any 65
       have hM212 := hM10.nilRes
       have hM213 := (hM212.perm ((pk 1 rfl).trans ((List.Perm.refl _).cons _))).drew
       exact ⟨none, 0, a168.tmps.getD 60 undef, a168.tmps.getD 61 undef, a168.tmps.getD 62 undef, a168.tmps.getD 63 undef, a168.tmps.getD 64 undef, a168.tmps.getD 65 undef, .row b6 [.int .i64 u0.ID, .bool u0.Long, .bool u0.Fast, .bool u0.Remote, .int .i64 u0.Size, .slice ao1 u0.Data.length cap2] 38, .nil, Z, Fz.le.refl _, hF211.region (by kernel_rfl) (by kernel_rfl), hM213, ff, ff, ff, ff, ff, ff, rfl, kf, ff, ff, ff⟩
      case hs =>
       intro S hcl i o hil hi hSi hpre a w1 hI; refine hid ?_; intro G hG; obtain ⟨ao182, hI⟩ := hI; obtain ⟨cap183, hI⟩ := hI; obtain ⟨ud60, hI⟩ := hI; obtain ⟨ud61, hI⟩ := hI; obtain ⟨ud62, hI⟩ := hI; obtain ⟨ud63, hI⟩ := hI; obtain ⟨ud64, hI⟩ := hI; obtain ⟨ud65, hI⟩ := hI; obtain ⟨rh0, hI⟩ := hI; obtain ⟨rh1, hI⟩ := hI; obtain ⟨Z204, hI⟩ := hI; obtain ⟨hle205, hI⟩ := hI; obtain ⟨hFx, hI⟩ := hI; obtain ⟨hMx, hI⟩ := hI; obtain ⟨cu60, hI⟩ := hI; obtain ⟨cu61, hI⟩ := hI; obtain ⟨cu62, hI⟩ := hI; obtain ⟨cu63, hI⟩ := hI; obtain ⟨cu64, hI⟩ := hI; obtain ⟨cu65, hI⟩ := hI; obtain ⟨cr0_0, hI⟩ := hI; obtain ⟨cr1_0, hI⟩ := hI; obtain ⟨cr1_1, hI⟩ := hI; obtain ⟨cr1_2, hI⟩ := hI; have cf0 := hI; clear hI
       have hcase : i = 0 ∨ i = 1 ∨ i = 2 ∨ i = 3 ∨ i = 4 ∨ i = 5 := by clear hi; omega
       rcases hcase with rfl | rfl | rfl | rfl | rfl | rfl
       · -- 0: call
        obtain rfl := Option.some.inj hi
        have hx0 := hSi
        have hx4 := negF hcl 4 0 (by kernel_rfl) hx0
        have hx5 := negF hcl 5 4 (by kernel_rfl) hx4
        obtain rfl := cr0_0
        obtain rfl := cr1_0 hx0
        refine hG (any_step ?_); clear hG G; intro A J hJ
        have hle0 := Fz.le.trans hle0 hle205
        have hzst := Fz.le.refl Z204
        have hs214 := hs3.mono hle205
        have hM215 := hMx.keep (List.Sublist.cons_cons _ (List.Sublist.cons _ (List.Sublist.slnil))); clear hMx
        refine cl hFx 55 #[] (nog rfl _) rfl (by kernel_rfl) (by kernel_rfl) ?_
        refine (rsizes_fun  _ _ hM215.fz).mono ?_; rintro _ wd216 ⟨ao220, cap221, Z222, rfl, hm⟩; refine ⟨_, rfl, ?_⟩; intro a217 hF218; have hM219 := hM215.callZ hm; have hle223 := hm.ext.le; clear hm hM215 hFx
        replace hzst := hzst.mono hle223
        replace hs214 := hs214.mono hle223
        replace hle0 := Fz.le.trans hle0 hle223
        have hM224 : Mem w.heap.size [] w Z [.own (tyInt .i64) 3 ao220 cap221 rsizes, .row b6 [.int .i64 u0.ID, .bool u0.Long, .bool u0.Fast, .bool u0.Remote, .int .i64 u0.Size, .slice ao1 u0.Data.length cap2] 38] Z222 wd216 := hM219; clear hM219
        refine nl (qnI (hJ _ _ ?_)); clear hJ J
        exact ⟨ao220, cap221, .slice ao220 rsizes.length cap221, ud61, ud62, ud63, ud64, ud65, .row b6 [.int .i64 u0.ID, .bool u0.Long, .bool u0.Fast, .bool u0.Remote, .int .i64 u0.Size, .slice ao1 u0.Data.length cap2] 38, .own (tyInt .i64) 3 ao220 cap221 rsizes, Z222, hle205.trans hzst, hF218.region (by kernel_rfl) (by kernel_rfl), hM224.perm ((pk 1 rfl).trans ((List.Perm.refl _).cons _)), kf, cu61, cu62, cu63, (nt hx4), (nt hx5), rfl, nu, kf2, (nt hx4), (nt hx4)⟩
       · -- 1: fieldAddr
        obtain rfl := Option.some.inj hi
        have hx1 := hSi
        have hx2 := negF hcl 2 1 (by kernel_rfl) hx1
        have hx3 := negF hcl 3 2 (by kernel_rfl) hx2
        have hx4 := negF hcl 4 3 (by kernel_rfl) hx3
        have hx5 := negF hcl 5 4 (by kernel_rfl) hx4
        obtain rfl := cr0_0
        refine hG (any_step ?_); clear hG G; intro A J hJ
        have hle0 := Fz.le.trans hle0 hle205
        have hzst := Fz.le.refl Z204
        have hs226 := hs3.mono hle205
        refine s1 hFx 61 (.pointer (some ⟨b6, 5, none⟩)) ?_; intro a227 hF228; clear hFx
        refine nl (qnI (hJ _ _ ?_)); clear hJ J
        exact ⟨ao182, cap183, ud60, .pointer (some ⟨b6, 5, none⟩), ud62, ud63, ud64, ud65, .row b6 [.int .i64 u0.ID, .bool u0.Long, .bool u0.Fast, .bool u0.Remote, .int .i64 u0.Size, .slice ao1 u0.Data.length cap2] 38, rh1, Z204, hle205, hF228.region (by kernel_rfl) (by kernel_rfl), hMx.perm (List.Perm.refl _), cu60, kf, (nt hx2), (nt hx3), (nt hx4), (nt hx5), rfl, cr1_0, cr1_1, (nt hx4), (nt hx4)⟩
       · -- 2: load
        obtain rfl := Option.some.inj hi
        have hx1 := hpre 1 (by kernel_rfl)
        have hx2 := hSi
        have hx3 := negF hcl 3 2 (by kernel_rfl) hx2
        have hx4 := negF hcl 4 3 (by kernel_rfl) hx3
        have hx5 := negF hcl 5 4 (by kernel_rfl) hx4
        obtain rfl := cu61 hx1
        obtain rfl := cr0_0
        refine hG (any_step ?_); clear hG G; intro A J hJ
        have hle0 := Fz.le.trans hle0 hle205
        have hzst := Fz.le.refl Z204
        have hs230 := hs3.mono hle205
        refine l1 hFx hMx 62 0 5 (.slice ao1 u0.Data.length cap2) rfl rfl ?_; intro a231 hF232; clear hFx
        refine nl (qnI (hJ _ _ ?_)); clear hJ J
        exact ⟨ao182, cap183, ud60, .pointer (some ⟨b6, 5, none⟩), .slice ao1 u0.Data.length cap2, ud63, ud64, ud65, .row b6 [.int .i64 u0.ID, .bool u0.Long, .bool u0.Fast, .bool u0.Remote, .int .i64 u0.Size, .slice ao1 u0.Data.length cap2] 38, rh1, Z204, hle205, hF232.region (by kernel_rfl) (by kernel_rfl), hMx.perm (List.Perm.refl _), cu60, kf, kf, (nt hx3), (nt hx4), (nt hx5), rfl, cr1_0, cr1_1, (nt hx4), (nt hx4)⟩
       · -- 3: call
        obtain rfl := Option.some.inj hi
        have hx2 := hpre 2 (by kernel_rfl)
        have hx1 := hcl 2 1 (by kernel_rfl) hx2
        have hx3 := hSi
        have hx4 := negF hcl 4 3 (by kernel_rfl) hx3
        have hx5 := negF hcl 5 4 (by kernel_rfl) hx4
        obtain rfl := cu61 hx1
        obtain rfl := cu62 hx2
        obtain rfl := cr0_0
        refine hG (any_step ?_); clear hG G; intro A J hJ
        have hle0 := Fz.le.trans hle0 hle205
        have hzst := Fz.le.refl Z204
        have hs234 := hs3.mono hle205
        refine s1 hFx 63 (.int .i64 (u0.Data.length : Int)) ?_; intro a235 hF236; clear hFx
        refine nl (qnI (hJ _ _ ?_)); clear hJ J
        exact ⟨ao182, cap183, ud60, .pointer (some ⟨b6, 5, none⟩), .slice ao1 u0.Data.length cap2, .int .i64 (u0.Data.length : Int), ud64, ud65, .row b6 [.int .i64 u0.ID, .bool u0.Long, .bool u0.Fast, .bool u0.Remote, .int .i64 u0.Size, .slice ao1 u0.Data.length cap2] 38, rh1, Z204, hle205, hF236.region (by kernel_rfl) (by kernel_rfl), hMx.perm (List.Perm.refl _), cu60, kf, kf, kf, (nt hx4), (nt hx5), rfl, cr1_0, cr1_1, (nt hx4), (nt hx4)⟩
       · -- 4: call
        obtain rfl := Option.some.inj hi
        have hx3 := hpre 3 (by kernel_rfl)
        have hx0 := hpre 0 (by kernel_rfl)
        have hx2 := hcl 3 2 (by kernel_rfl) hx3
        have hx1 := hcl 2 1 (by kernel_rfl) hx2
        have hx4 := hSi
        have hx5 := negF hcl 5 4 (by kernel_rfl) hx4
        obtain rfl := cu60 hx0
        obtain rfl := cu61 hx1
        obtain rfl := cu62 hx2
        obtain rfl := cu63 hx3
        obtain rfl := cr0_0
        obtain rfl := cr1_1 hx0 hx4
        refine hG (any_step ?_); clear hG G; intro A J hJ
        have hle0 := Fz.le.trans hle0 hle205
        have hzst := Fz.le.refl Z204
        have hs238 := hs3.mono hle205
        obtain ⟨Z239, hle240, hM241, hs242⟩ := hMx.freeze 1 rfl
        replace hzst := hzst.mono hle240
        replace hs238 := hs238.mono hle240
        replace hle0 := Fz.le.trans hle0 hle240
        have hM243 : Mem w.heap.size [] w Z [.row b6 [.int .i64 u0.ID, .bool u0.Long, .bool u0.Fast, .bool u0.Remote, .int .i64 u0.Size, .slice ao1 u0.Data.length cap2] 38] Z239 w1 := hM241; clear hM241
        refine fcl hFx hM243 (.bool (scontainsS rsizes (u0.Data.length : Int))) 54 #[.slice ao182 rsizes.length cap183, .int .i64 (u0.Data.length : Int)] (nog rfl _) rfl (by kernel_rfl) (fun _ => by kernel_rfl) (scontains_fun rsizes (u0.Data.length : Int) ao182 cap183 _ _ hs242 hM243.fz) ?_; intro a244 wd246 hF245 hM247; clear hFx hM243
        refine nl (qnI (hJ _ _ ?_)); clear hJ J
        have hM248 := hM247.nilRes
        exact ⟨ao182, cap183, .slice ao182 rsizes.length cap183, .pointer (some ⟨b6, 5, none⟩), .slice ao1 u0.Data.length cap2, .int .i64 (u0.Data.length : Int), .bool (scontainsS rsizes (u0.Data.length : Int)), ud65, .row b6 [.int .i64 u0.ID, .bool u0.Long, .bool u0.Fast, .bool u0.Remote, .int .i64 u0.Size, .slice ao1 u0.Data.length cap2] 38, .nil, Z239, hle205.trans hzst, hF245.region (by kernel_rfl) (by kernel_rfl), hM248.perm ((pk 1 rfl).trans ((List.Perm.refl _).cons _)), kf, kf, kf, kf, kf, (nt hx5), rfl, (tn hx0), (fun _ => nu), kf, (fun _ => hs242)⟩
       · -- 5: unOp
        obtain rfl := Option.some.inj hi
        have hx4 := hpre 4 (by kernel_rfl)
        have hx3 := hcl 4 3 (by kernel_rfl) hx4
        have hx0 := hcl 4 0 (by kernel_rfl) hx4
        have hx2 := hcl 3 2 (by kernel_rfl) hx3
        have hx1 := hcl 2 1 (by kernel_rfl) hx2
        have hx5 := hSi
        obtain rfl := cu60 hx0
        obtain rfl := cu61 hx1
        obtain rfl := cu62 hx2
        obtain rfl := cu63 hx3
        obtain rfl := cu64 hx4
        obtain rfl := cr0_0
        obtain rfl := cr1_2 hx4
        refine hG (any_step ?_); clear hG G; intro A J hJ
        have hle0 := Fz.le.trans hle0 hle205
        have hzst := Fz.le.refl Z204
        have hs250 := hs3.mono hle205
        have hs251 := cf0 hx4
        have hM252 := hMx.keep (List.Sublist.cons_cons _ (List.Sublist.cons _ (List.Sublist.slnil))); clear hMx
        refine s1 hFx 65 (.bool (!(scontainsS rsizes (u0.Data.length : Int)))) ?_; intro a253 hF254; clear hFx
        refine nl (qnI (hJ _ _ ?_)); clear hJ J
        have hM255 := hM252.nilRes
        exact ⟨ao182, cap183, .slice ao182 rsizes.length cap183, .pointer (some ⟨b6, 5, none⟩), .slice ao1 u0.Data.length cap2, .int .i64 (u0.Data.length : Int), .bool (scontainsS rsizes (u0.Data.length : Int)), .bool (!(scontainsS rsizes (u0.Data.length : Int))), .row b6 [.int .i64 u0.ID, .bool u0.Long, .bool u0.Fast, .bool u0.Remote, .int .i64 u0.Size, .slice ao1 u0.Data.length cap2] 38, .nil, Z204, hle205, hF254.region (by kernel_rfl) (by kernel_rfl), hM255.perm ((pk 1 rfl).trans ((List.Perm.refl _).cons _)), kf, kf, kf, kf, kf, kf, rfl, (tn hx0), (fun _ => tn hx4), kf, (fun _ => hs251)⟩
      case hE =>
       intro S hS a257 wd258 hI; refine hid ?_; intro G hG; obtain ⟨ao182, hI⟩ := hI; obtain ⟨cap183, hI⟩ := hI; obtain ⟨ud60, hI⟩ := hI; obtain ⟨ud61, hI⟩ := hI; obtain ⟨ud62, hI⟩ := hI; obtain ⟨ud63, hI⟩ := hI; obtain ⟨ud64, hI⟩ := hI; obtain ⟨ud65, hI⟩ := hI; obtain ⟨rh0, hI⟩ := hI; obtain ⟨rh1, hI⟩ := hI; obtain ⟨Z204, hI⟩ := hI; obtain ⟨hle205, hI⟩ := hI; obtain ⟨hFx, hI⟩ := hI; obtain ⟨hMx, hI⟩ := hI; obtain ⟨cu60, hI⟩ := hI; obtain ⟨cu61, hI⟩ := hI; obtain ⟨cu62, hI⟩ := hI; obtain ⟨cu63, hI⟩ := hI; obtain ⟨cu64, hI⟩ := hI; obtain ⟨cu65, hI⟩ := hI; obtain ⟨cr0_0, hI⟩ := hI; obtain ⟨cr1_0, hI⟩ := hI; obtain ⟨cr1_1, hI⟩ := hI; obtain ⟨cr1_2, hI⟩ := hI; have cf0 := hI; clear hI; refine hG ?_; clear hG G
       obtain rfl := cu60 (hS 0 (by decide))
       obtain rfl := cu61 (hS 1 (by decide))
       obtain rfl := cu62 (hS 2 (by decide))
       obtain rfl := cu63 (hS 3 (by decide))
       obtain rfl := cu64 (hS 4 (by decide))
       obtain rfl := cu65 (hS 5 (by decide))
       obtain rfl := cr0_0
       obtain rfl := cr1_2 (hS 4 (by decide))
       have hle0 := Fz.le.trans hle0 hle205
       have hs259 := hs3.mono hle205
       have hs260 := cf0 (hS 4 (by decide))
       have hMx := hMx.keep (List.Sublist.cons_cons _ (List.Sublist.cons _ (List.Sublist.slnil)))
       refine thn ?_
       refine cd hFx (t := !(scontainsS rsizes (u0.Data.length : Int))) (by kernel_rfl) (fun hb261 => ?_) (fun hb261 => ?_)
       · -- yes
        have hp262 := hp176.1 hb261; clear hp176
        have hF263 : Fr 66 [] [] a257 := hFx.region (by kernel_rfl) (by kernel_rfl); clear hFx
        refine sqH ?_; intro hQ264Q hQ264
        refine s1 hF263 2 (.int .i64 4) ?_; intro a265 hF266; clear hF263
        refine nlH (hQ264 _ _ ?_); clear hQ264 hQ264Q
        refine wp_ret ?_
        refine thr ?_
        refine rt (fn := Try.f27) (v := .int .i64 4) hF266 (re1 hF266 (fn := Try.f27) rfl (by kernel_rfl)) ?_
        exact ⟨4, rfl, hp262, hMx.below⟩
       · -- no
        have hp267 := hp176.2 hb261; clear hp176
        refine wp_skip ?_
        refine thn ?_
        have hF268 : Fr 66 [] [] a257 := hFx.region (by kernel_rfl) (by kernel_rfl); clear hFx
        refine sqH ?_; intro hQ269Q hQ269
        refine s1 hF268 2 (.int .i64 0) ?_; intro a270 hF271; clear hF268
        refine nlH (hQ269 _ _ ?_); clear hQ269 hQ269Q
        refine wp_ret ?_
        refine rt (fn := Try.f27) (v := .int .i64 0) hF271 (re1 hF271 (fn := Try.f27) rfl (by kernel_rfl)) ?_
        exact ⟨0, rfl, hp267, hMx.below⟩
 · -- no
  have hp272 := hp4.2 hb21; clear hp4
  refine wp_skip ?_
  refine thn ?_
  refine wp_seq ?_
  refine sqH ?_; intro hQ273Q hQ273
  refine s1 hF20 6 (.pointer (some ⟨b6, 0, none⟩)) ?_; intro a274 hF275; clear hF20
  refine l1 hF275 hM10 7 0 0 (.int .i64 u0.ID) rfl rfl ?_; intro a276 hF277; clear hF275
  refine s1 hF277 8 (.bool (decide (u0.ID < 0))) ?_; intro a278 hF279; clear hF277
  refine s1 hF279 9 (.bool (decide (u0.ID < 0))) ?_; intro a280 hF281; clear hF279
  have hF282 := hF281.atom ((decide (u0.ID < 0)) == false) (by kernel_rfl); clear hF281
  refine gp hF282 10 0 [] (decide (u0.ID < 0)) (.pointer (some ⟨b6, 0, none⟩)) rfl rfl ?_; intro a283 hF284; clear hF282
  refine gd hF284 (.int .i64 u0.ID) (m := 0) (cj := []) (bj := decide (u0.ID < 0)) rfl rfl (by kernel_rfl) rfl (by kernel_rfl) (by kernel_rfl) (by kernel_rfl) (fun hg => ld hF284 hM10 0 (g := [0]) (b := b6) (off := 0) (cs := [.int .i64 u0.ID, .bool u0.Long, .bool u0.Fast, .bool u0.Remote, .int .i64 u0.Size, .slice ao1 u0.Data.length cap2]) (ty := 38) rfl (by kernel_rfl) (by kernel_rfl) (by kernel_rfl) (by kernel_rfl) hg) ?_; intro a285 hF286; clear hF284
  refine gp hF286 12 0 [] (decide (u0.ID < 0)) (.int .i64 2047) rfl rfl ?_; intro a287 hF288; clear hF286
  refine gp hF288 13 0 [] (decide (u0.ID < 0)) (.bool (decide (u0.ID > 2047))) rfl rfl ?_; intro a289 hF290; clear hF288
  refine st hF290 (.bool ((decide (u0.ID < 0)) || (decide (u0.ID > 2047)))) (nog rfl _) rfl (by kernel_rfl) (pk_or hF290 (g := []) (m := 0) (b := decide (u0.ID < 0)) (v := decide (u0.ID > 2047)) rfl (by kernel_rfl) (by kernel_rfl) (by kernel_rfl) rfl) ?_; intro a291 hF292; clear hF290
  refine nlH (hQ273 _ _ ?_); clear hQ273 hQ273Q
  refine cd hF292 (t := (decide (u0.ID < 0)) || (decide (u0.ID > 2047))) (by kernel_rfl) (fun hb293 => ?_) (fun hb293 => ?_)
  · -- yes
   have hp294 := hp272.1 hb293; clear hp272
   have hF295 : Fr 66 [] [] a291 := hF292.region (by kernel_rfl) (by kernel_rfl); clear hF292
   refine sqH ?_; intro hQ296Q hQ296
   refine s1 hF295 2 (.int .i64 3) ?_; intro a297 hF298; clear hF295
   refine nlH (hQ296 _ _ ?_); clear hQ296 hQ296Q
   refine wp_ret ?_
   refine thr ?_
   refine rt (fn := Try.f27) (v := .int .i64 3) hF298 (re1 hF298 (fn := Try.f27) rfl (by kernel_rfl)) ?_
   exact ⟨3, rfl, hp294, hM10.below⟩
  · -- no
   have hp299 := hp272.2 hb293; clear hp272
   refine wp_skip ?_
   refine thn ?_
   refine wp_seq ?_
   have hF300 : Fr 66 [] [⟨1, [], .pointer (some ⟨b6, 0, none⟩)⟩] a291 := hF292.region (by kernel_rfl) (by kernel_rfl); clear hF292
   refine sqH ?_; intro hQ301Q hQ301
   refine s1 hF300 15 (.pointer (some ⟨b6, 3, none⟩)) ?_; intro a302 hF303; clear hF300
   refine l1 hF303 hM10 16 0 3 (.bool u0.Remote) rfl rfl ?_; intro a304 hF305; clear hF303
   refine s1 hF305 17 (.bool u0.Remote) ?_; intro a306 hF307; clear hF305
   have hF308 := hF307.atom (u0.Remote == true) (by kernel_rfl); clear hF307
   refine gp hF308 18 0 [] (u0.Remote) (.pointer (some ⟨b6, 2, none⟩)) rfl rfl ?_; intro a309 hF310; clear hF308
   refine gd hF310 (.bool u0.Fast) (m := 0) (cj := []) (bj := u0.Remote) rfl rfl (by kernel_rfl) rfl (by kernel_rfl) (by kernel_rfl) (by kernel_rfl) (fun hg => ld hF310 hM10 0 (g := [0]) (b := b6) (off := 2) (cs := [.int .i64 u0.ID, .bool u0.Long, .bool u0.Fast, .bool u0.Remote, .int .i64 u0.Size, .slice ao1 u0.Data.length cap2]) (ty := 38) rfl (by kernel_rfl) (by kernel_rfl) (by kernel_rfl) (by kernel_rfl) hg) ?_; intro a311 hF312; clear hF310
   refine gp hF312 20 0 [] (u0.Remote) (.bool u0.Fast) rfl rfl ?_; intro a313 hF314; clear hF312
   have hF315 := hF314.atom (u0.Fast == false) (by kernel_rfl); clear hF314
   refine gp hF315 21 1 [0] (u0.Fast) (.pointer (some ⟨b6, 5, none⟩)) rfl rfl ?_; intro a316 hF317; clear hF315
   refine gd hF317 (.slice ao1 u0.Data.length cap2) (m := 1) (cj := [0]) (bj := u0.Fast) rfl rfl (by kernel_rfl) rfl (by kernel_rfl) (by kernel_rfl) (by kernel_rfl) (fun hg => ld hF317 hM10 0 (g := [1, 0]) (b := b6) (off := 5) (cs := [.int .i64 u0.ID, .bool u0.Long, .bool u0.Fast, .bool u0.Remote, .int .i64 u0.Size, .slice ao1 u0.Data.length cap2]) (ty := 38) rfl (by kernel_rfl) (by kernel_rfl) (by kernel_rfl) (by kernel_rfl) hg) ?_; intro a318 hF319; clear hF317
   refine gp hF319 23 1 [0] (u0.Fast) (.int .i64 (u0.Data.length : Int)) rfl rfl ?_; intro a320 hF321; clear hF319
   refine gp hF321 24 1 [0] (u0.Fast) (.bool ((u0.Data.length : Int) != 0)) rfl rfl ?_; intro a322 hF323; clear hF321
   refine gd hF323 (.bool (u0.Fast || ((u0.Data.length : Int) != 0))) (m := 0) (cj := []) (bj := u0.Remote) rfl rfl (by kernel_rfl) rfl (by kernel_rfl) (by kernel_rfl) (by kernel_rfl) (fun hg => pk_or hF323 (g := [0]) (m := 1) (b := u0.Fast) (v := (u0.Data.length : Int) != 0) rfl (by kernel_rfl) (by kernel_rfl) (by kernel_rfl) hg) ?_; intro a324 hF325; clear hF323
   refine st hF325 (.bool (u0.Remote && (u0.Fast || ((u0.Data.length : Int) != 0)))) (nog rfl _) rfl (by kernel_rfl) (pk_and hF325 (g := []) (m := 0) (b := u0.Remote) (v := u0.Fast || ((u0.Data.length : Int) != 0)) rfl (by kernel_rfl) (by kernel_rfl) (by kernel_rfl) rfl) ?_; intro a326 hF327; clear hF325
   refine nlH (hQ301 _ _ ?_); clear hQ301 hQ301Q
   refine cd hF327 (t := u0.Remote && (u0.Fast || ((u0.Data.length : Int) != 0))) (by kernel_rfl) (fun hb328 => ?_) (fun hb328 => ?_)
   · -- yes
    have hp329 := hp299.1 hb328; clear hp299
    have hF330 : Fr 66 [] [] a326 := hF327.region (by kernel_rfl) (by kernel_rfl); clear hF327
    refine sqH ?_; intro hQ331Q hQ331
    refine s1 hF330 2 (.int .i64 4) ?_; intro a332 hF333; clear hF330
    refine nlH (hQ331 _ _ ?_); clear hQ331 hQ331Q
    refine wp_ret ?_
    refine thr ?_
    refine rt (fn := Try.f27) (v := .int .i64 4) hF333 (re1 hF333 (fn := Try.f27) rfl (by kernel_rfl)) ?_
    exact ⟨4, rfl, hp329, hM10.below⟩
   · -- no
    have hp334 := hp299.2 hb328; clear hp299
    refine wp_skip ?_
    refine thn ?_
    refine wp_seq ?_
    have hF335 : Fr 66 [] [⟨1, [], .pointer (some ⟨b6, 0, none⟩)⟩] a326 := hF327.region (by kernel_rfl) (by kernel_rfl); clear hF327
    refine sqH ?_; intro hQ336Q hQ336
    refine s1 hF335 27 (.pointer (some ⟨b6, 4, none⟩)) ?_; intro a337 hF338; clear hF335
    refine l1 hF338 hM10 28 0 4 (.int .i64 u0.Size) rfl rfl ?_; intro a339 hF340; clear hF338
    refine s1 hF340 29 (.bool (decide (u0.Size < 0))) ?_; intro a341 hF342; clear hF340
    refine s1 hF342 30 (.bool (decide (u0.Size < 0))) ?_; intro a343 hF344; clear hF342
    have hF345 := hF344.atom ((decide (u0.Size < 0)) == false) (by kernel_rfl); clear hF344
    refine gp hF345 31 0 [] (decide (u0.Size < 0)) (.pointer (some ⟨b6, 4, none⟩)) rfl rfl ?_; intro a346 hF347; clear hF345
    refine gd hF347 (.int .i64 u0.Size) (m := 0) (cj := []) (bj := decide (u0.Size < 0)) rfl rfl (by kernel_rfl) rfl (by kernel_rfl) (by kernel_rfl) (by kernel_rfl) (fun hg => ld hF347 hM10 0 (g := [0]) (b := b6) (off := 4) (cs := [.int .i64 u0.ID, .bool u0.Long, .bool u0.Fast, .bool u0.Remote, .int .i64 u0.Size, .slice ao1 u0.Data.length cap2]) (ty := 38) rfl (by kernel_rfl) (by kernel_rfl) (by kernel_rfl) (by kernel_rfl) hg) ?_; intro a348 hF349; clear hF347
    refine gp hF349 33 0 [] (decide (u0.Size < 0)) (.bool (decide (u0.Size > 8))) rfl rfl ?_; intro a350 hF351; clear hF349
    refine st hF351 (.bool ((decide (u0.Size < 0)) || (decide (u0.Size > 8)))) (nog rfl _) rfl (by kernel_rfl) (pk_or hF351 (g := []) (m := 0) (b := decide (u0.Size < 0)) (v := decide (u0.Size > 8)) rfl (by kernel_rfl) (by kernel_rfl) (by kernel_rfl) rfl) ?_; intro a352 hF353; clear hF351
    refine s1 hF353 35 (.bool ((decide (u0.Size < 0)) || (decide (u0.Size > 8)))) ?_; intro a354 hF355; clear hF353
    have hF356 := hF355.atom (((decide (u0.Size < 0)) || (decide (u0.Size > 8))) == false) (by kernel_rfl); clear hF355
    refine gp hF356 36 1 [] ((decide (u0.Size < 0)) || (decide (u0.Size > 8))) (.pointer (some ⟨b6, 4, none⟩)) rfl rfl ?_; intro a357 hF358; clear hF356
    refine gd hF358 (.int .i64 u0.Size) (m := 1) (cj := []) (bj := (decide (u0.Size < 0)) || (decide (u0.Size > 8))) rfl rfl (by kernel_rfl) rfl (by kernel_rfl) (by kernel_rfl) (by kernel_rfl) (fun hg => ld hF358 hM10 0 (g := [1]) (b := b6) (off := 4) (cs := [.int .i64 u0.ID, .bool u0.Long, .bool u0.Fast, .bool u0.Remote, .int .i64 u0.Size, .slice ao1 u0.Data.length cap2]) (ty := 38) rfl (by kernel_rfl) (by kernel_rfl) (by kernel_rfl) (by kernel_rfl) hg) ?_; intro a359 hF360; clear hF358
    refine gp hF360 38 1 [] ((decide (u0.Size < 0)) || (decide (u0.Size > 8))) (.bool (decide (u0.Size > 0))) rfl rfl ?_; intro a361 hF362; clear hF360
    refine gp hF362 39 1 [] ((decide (u0.Size < 0)) || (decide (u0.Size > 8))) (.bool (decide (u0.Size > 0))) rfl rfl ?_; intro a363 hF364; clear hF362
    have hF365 := hF364.atom ((decide (u0.Size > 0)) == true) (by kernel_rfl); clear hF364
    refine gp hF365 40 2 [1] (decide (u0.Size > 0)) (.pointer (some ⟨b6, 3, none⟩)) rfl rfl ?_; intro a366 hF367; clear hF365
    refine gd hF367 (.bool u0.Remote) (m := 2) (cj := [1]) (bj := decide (u0.Size > 0)) rfl rfl (by kernel_rfl) rfl (by kernel_rfl) (by kernel_rfl) (by kernel_rfl) (fun hg => ld hF367 hM10 0 (g := [2, 1]) (b := b6) (off := 3) (cs := [.int .i64 u0.ID, .bool u0.Long, .bool u0.Fast, .bool u0.Remote, .int .i64 u0.Size, .slice ao1 u0.Data.length cap2]) (ty := 38) rfl (by kernel_rfl) (by kernel_rfl) (by kernel_rfl) (by kernel_rfl) hg) ?_; intro a368 hF369; clear hF367
    refine gp hF369 42 2 [1] (decide (u0.Size > 0)) (.bool (!u0.Remote)) rfl rfl ?_; intro a370 hF371; clear hF369
    refine gd hF371 (.bool ((decide (u0.Size > 0)) && (!u0.Remote))) (m := 1) (cj := []) (bj := (decide (u0.Size < 0)) || (decide (u0.Size > 8))) rfl rfl (by kernel_rfl) rfl (by kernel_rfl) (by kernel_rfl) (by kernel_rfl) (fun hg => pk_and hF371 (g := [1]) (m := 2) (b := decide (u0.Size > 0)) (v := !u0.Remote) rfl (by kernel_rfl) (by kernel_rfl) (by kernel_rfl) hg) ?_; intro a372 hF373; clear hF371
    refine st hF373 (.bool (((decide (u0.Size < 0)) || (decide (u0.Size > 8))) || ((decide (u0.Size > 0)) && (!u0.Remote)))) (nog rfl _) rfl (by kernel_rfl) (pk_or hF373 (g := []) (m := 1) (b := (decide (u0.Size < 0)) || (decide (u0.Size > 8))) (v := (decide (u0.Size > 0)) && (!u0.Remote)) rfl (by kernel_rfl) (by kernel_rfl) (by kernel_rfl) rfl) ?_; intro a374 hF375; clear hF373
    refine nlH (hQ336 _ _ ?_); clear hQ336 hQ336Q
    refine cd hF375 (t := ((decide (u0.Size < 0)) || (decide (u0.Size > 8))) || ((decide (u0.Size > 0)) && (!u0.Remote))) (by kernel_rfl) (fun hb376 => ?_) (fun hb376 => ?_)
    · -- yes
     have hp377 := hp334.1 hb376; clear hp334
     have hF378 : Fr 66 [] [] a374 := hF375.region (by kernel_rfl) (by kernel_rfl); clear hF375
     refine sqH ?_; intro hQ379Q hQ379
     refine s1 hF378 2 (.int .i64 3) ?_; intro a380 hF381; clear hF378
     refine nlH (hQ379 _ _ ?_); clear hQ379 hQ379Q
     refine wp_ret ?_
     refine thr ?_
     refine rt (fn := Try.f27) (v := .int .i64 3) hF381 (re1 hF381 (fn := Try.f27) rfl (by kernel_rfl)) ?_
     exact ⟨3, rfl, hp377, hM10.below⟩
    · -- no
     have hp382 := hp334.2 hb376; clear hp334
     refine wp_skip ?_
     refine thn ?_
     refine wp_seq ?_
     have hF383 : Fr 66 [] [⟨1, [], .pointer (some ⟨b6, 0, none⟩)⟩] a374 := hF375.region (by kernel_rfl) (by kernel_rfl); clear hF375
     refine sqH ?_; intro hQ384Q hQ384
     refine s1 hF383 45 (.pointer (some ⟨b6, 5, none⟩)) ?_; intro a385 hF386; clear hF383
     refine l1 hF386 hM10 46 0 5 (.slice ao1 u0.Data.length cap2) rfl rfl ?_; intro a387 hF388; clear hF386
     refine s1 hF388 47 (.int .i64 (u0.Data.length : Int)) ?_; intro a389 hF390; clear hF388
     refine s1 hF390 48 (.bool (decide ((u0.Data.length : Int) > 64))) ?_; intro a391 hF392; clear hF390
     refine s1 hF392 49 (.bool (decide ((u0.Data.length : Int) > 64))) ?_; intro a393 hF394; clear hF392
     have hF395 := hF394.atom ((decide ((u0.Data.length : Int) > 64)) == false) (by kernel_rfl); clear hF394
     refine gp hF395 50 0 [] (decide ((u0.Data.length : Int) > 64)) (.pointer (some ⟨b6, 5, none⟩)) rfl rfl ?_; intro a396 hF397; clear hF395
     refine gd hF397 (.slice ao1 u0.Data.length cap2) (m := 0) (cj := []) (bj := decide ((u0.Data.length : Int) > 64)) rfl rfl (by kernel_rfl) rfl (by kernel_rfl) (by kernel_rfl) (by kernel_rfl) (fun hg => ld hF397 hM10 0 (g := [0]) (b := b6) (off := 5) (cs := [.int .i64 u0.ID, .bool u0.Long, .bool u0.Fast, .bool u0.Remote, .int .i64 u0.Size, .slice ao1 u0.Data.length cap2]) (ty := 38) rfl (by kernel_rfl) (by kernel_rfl) (by kernel_rfl) (by kernel_rfl) hg) ?_; intro a398 hF399; clear hF397
     refine gp hF399 52 0 [] (decide ((u0.Data.length : Int) > 64)) (.int .i64 (u0.Data.length : Int)) rfl rfl ?_; intro a400 hF401; clear hF399
     refine gp hF401 53 0 [] (decide ((u0.Data.length : Int) > 64)) (.bool (decide ((u0.Data.length : Int) > 8))) rfl rfl ?_; intro a402 hF403; clear hF401
     refine gp hF403 54 0 [] (decide ((u0.Data.length : Int) > 64)) (.bool (decide ((u0.Data.length : Int) > 8))) rfl rfl ?_; intro a404 hF405; clear hF403
     have hF406 := hF405.atom ((decide ((u0.Data.length : Int) > 8)) == true) (by kernel_rfl); clear hF405
     refine gp hF406 55 1 [0] (decide ((u0.Data.length : Int) > 8)) (.pointer (some ⟨b6, 2, none⟩)) rfl rfl ?_; intro a407 hF408; clear hF406
     refine gd hF408 (.bool u0.Fast) (m := 1) (cj := [0]) (bj := decide ((u0.Data.length : Int) > 8)) rfl rfl (by kernel_rfl) rfl (by kernel_rfl) (by kernel_rfl) (by kernel_rfl) (fun hg => ld hF408 hM10 0 (g := [1, 0]) (b := b6) (off := 2) (cs := [.int .i64 u0.ID, .bool u0.Long, .bool u0.Fast, .bool u0.Remote, .int .i64 u0.Size, .slice ao1 u0.Data.length cap2]) (ty := 38) rfl (by kernel_rfl) (by kernel_rfl) (by kernel_rfl) (by kernel_rfl) hg) ?_; intro a409 hF410; clear hF408
     refine gp hF410 57 1 [0] (decide ((u0.Data.length : Int) > 8)) (.bool (!u0.Fast)) rfl rfl ?_; intro a411 hF412; clear hF410
     refine gd hF412 (.bool ((decide ((u0.Data.length : Int) > 8)) && (!u0.Fast))) (m := 0) (cj := []) (bj := decide ((u0.Data.length : Int) > 64)) rfl rfl (by kernel_rfl) rfl (by kernel_rfl) (by kernel_rfl) (by kernel_rfl) (fun hg => pk_and hF412 (g := [0]) (m := 1) (b := decide ((u0.Data.length : Int) > 8)) (v := !u0.Fast) rfl (by kernel_rfl) (by kernel_rfl) (by kernel_rfl) hg) ?_; intro a413 hF414; clear hF412
     refine st hF414 (.bool ((decide ((u0.Data.length : Int) > 64)) || ((decide ((u0.Data.length : Int) > 8)) && (!u0.Fast)))) (nog rfl _) rfl (by kernel_rfl) (pk_or hF414 (g := []) (m := 0) (b := decide ((u0.Data.length : Int) > 64)) (v := (decide ((u0.Data.length : Int) > 8)) && (!u0.Fast)) rfl (by kernel_rfl) (by kernel_rfl) (by kernel_rfl) rfl) ?_; intro a415 hF416; clear hF414
     refine nlH (hQ384 _ _ ?_); clear hQ384 hQ384Q
     refine cd hF416 (t := (decide ((u0.Data.length : Int) > 64)) || ((decide ((u0.Data.length : Int) > 8)) && (!u0.Fast))) (by kernel_rfl) (fun hb417 => ?_) (fun hb417 => ?_)
     · -- yes
      have hp418 := hp382.1 hb417; clear hp382
      have hF419 : Fr 66 [] [] a415 := hF416.region (by kernel_rfl) (by kernel_rfl); clear hF416
      refine sqH ?_; intro hQ420Q hQ420
      refine s1 hF419 2 (.int .i64 2) ?_; intro a421 hF422; clear hF419
      refine nlH (hQ420 _ _ ?_); clear hQ420 hQ420Q
      refine wp_ret ?_
      refine thr ?_
      refine rt (fn := Try.f27) (v := .int .i64 2) hF422 (re1 hF422 (fn := Try.f27) rfl (by kernel_rfl)) ?_
      exact ⟨2, rfl, hp418, hM10.below⟩
     · -- no
      have hp423 := hp382.2 hb417; clear hp382
      refine wp_skip ?_
      refine thn ?_
      refine wp_seq ?_
      have hF424 : Fr 66 [] [⟨1, [], .pointer (some ⟨b6, 0, none⟩)⟩] a415 := hF416.region (by kernel_rfl) (by kernel_rfl); clear hF416
      refine wp_seq (any_invE mixed [[], [], [1], [2], [0, 3], [4]] 6 (fun S a w1 => ∃ (ao429 : Option Addr) (cap430 : Nat) (ud60 : Value) (ud61 : Value) (ud62 : Value) (ud63 : Value) (ud64 : Value) (ud65 : Value) (rh0 : Res) (rh1 : Res) (Z451 : Fz), Fz.le Z Z451 ∧ Fr 66 [] [⟨1, [], .pointer (some ⟨b6, 0, none⟩)⟩, ⟨60, [], ud60⟩, ⟨61, [], ud61⟩, ⟨62, [], ud62⟩, ⟨63, [], ud63⟩, ⟨64, [], ud64⟩, ⟨65, [], ud65⟩] a ∧ Mem w.heap.size [] w Z [rh0, rh1] Z451 w1 ∧ (S 0 = true → ud60 = .slice ao429 rsizes.length cap430) ∧ (S 1 = true → ud61 = .pointer (some ⟨b6, 5, none⟩)) ∧ (S 2 = true → ud62 = .slice ao1 u0.Data.length cap2) ∧ (S 3 = true → ud63 = .int .i64 (u0.Data.length : Int)) ∧ (S 4 = true → ud64 = .bool (scontainsS rsizes (u0.Data.length : Int))) ∧ (S 5 = true → ud65 = .bool (!(scontainsS rsizes (u0.Data.length : Int)))) ∧ (rh0 = .row b6 [.int .i64 u0.ID, .bool u0.Long, .bool u0.Fast, .bool u0.Remote, .int .i64 u0.Size, .slice ao1 u0.Data.length cap2] 38) ∧ (S 0 = false → rh1 = .nil) ∧ (S 0 = true → S 4 = false → rh1 = .own (tyInt .i64) 3 ao429 cap430 rsizes) ∧ (S 4 = true → rh1 = .nil) ∧ (S 4 = true → SlR (tyInt .i64) Z451 ao429 cap430 rsizes)) ?h0 ?hs ?hE)
      case h0 =>
       have hF453 := hF424.any 60
       have hF454 := hF453.any 61
       have hF455 := hF454.any 62
       have hF456 := hF455.any 63
       have hF457 := hF456.any 64
       have hF458 := hF457.any 65
       have hM459 := hM10.nilRes
       have hM460 := (hM459.perm ((pk 1 rfl).trans ((List.Perm.refl _).cons _))).drew
       exact ⟨none, 0, a415.tmps.getD 60 undef, a415.tmps.getD 61 undef, a415.tmps.getD 62 undef, a415.tmps.getD 63 undef, a415.tmps.getD 64 undef, a415.tmps.getD 65 undef, .row b6 [.int .i64 u0.ID, .bool u0.Long, .bool u0.Fast, .bool u0.Remote, .int .i64 u0.Size, .slice ao1 u0.Data.length cap2] 38, .nil, Z, Fz.le.refl _, hF458.region (by kernel_rfl) (by kernel_rfl), hM460, ff, ff, ff, ff, ff, ff, rfl, kf, ff, ff, ff⟩
      case hs =>
       intro S hcl i o hil hi hSi hpre a w1 hI; refine hid ?_; intro G hG; obtain ⟨ao429, hI⟩ := hI; obtain ⟨cap430, hI⟩ := hI; obtain ⟨ud60, hI⟩ := hI; obtain ⟨ud61, hI⟩ := hI; obtain ⟨ud62, hI⟩ := hI; obtain ⟨ud63, hI⟩ := hI; obtain ⟨ud64, hI⟩ := hI; obtain ⟨ud65, hI⟩ := hI; obtain ⟨rh0, hI⟩ := hI; obtain ⟨rh1, hI⟩ := hI; obtain ⟨Z451, hI⟩ := hI; obtain ⟨hle452, hI⟩ := hI; obtain ⟨hFx, hI⟩ := hI; obtain ⟨hMx, hI⟩ := hI; obtain ⟨cu60, hI⟩ := hI; obtain ⟨cu61, hI⟩ := hI; obtain ⟨cu62, hI⟩ := hI; obtain ⟨cu63, hI⟩ := hI; obtain ⟨cu64, hI⟩ := hI; obtain ⟨cu65, hI⟩ := hI; obtain ⟨cr0_0, hI⟩ := hI; obtain ⟨cr1_0, hI⟩ := hI; obtain ⟨cr1_1, hI⟩ := hI; obtain ⟨cr1_2, hI⟩ := hI; have cf0 := hI; clear hI
       have hcase : i = 0 ∨ i = 1 ∨ i = 2 ∨ i = 3 ∨ i = 4 ∨ i = 5 := by clear hi; omega
       rcases hcase with rfl | rfl | rfl | rfl | rfl | rfl
       · -- 0: call
        obtain rfl := Option.some.inj hi
        have hx0 := hSi
        have hx4 := negF hcl 4 0 (by kernel_rfl) hx0
        have hx5 := negF hcl 5 4 (by kernel_rfl) hx4
        obtain rfl := cr0_0
        obtain rfl := cr1_0 hx0
        refine hG (any_step ?_); clear hG G; intro A J hJ
        have hle0 := Fz.le.trans hle0 hle452
        have hzst := Fz.le.refl Z451
        have hs461 := hs3.mono hle452
        have hM462 := hMx.keep (List.Sublist.cons_cons _ (List.Sublist.cons _ (List.Sublist.slnil))); clear hMx
        refine cl hFx 55 #[] (nog rfl _) rfl (by kernel_rfl) (by kernel_rfl) ?_
        refine (rsizes_fun  _ _ hM462.fz).mono ?_; rintro _ wd463 ⟨ao467, cap468, Z469, rfl, hm⟩; refine ⟨_, rfl, ?_⟩; intro a464 hF465; have hM466 := hM462.callZ hm; have hle470 := hm.ext.le; clear hm hM462 hFx
        replace hzst := hzst.mono hle470
        replace hs461 := hs461.mono hle470
        replace hle0 := Fz.le.trans hle0 hle470
        have hM471 : Mem w.heap.size [] w Z [.own (tyInt .i64) 3 ao467 cap468 rsizes, .row b6 [.int .i64 u0.ID, .bool u0.Long, .bool u0.Fast, .bool u0.Remote, .int .i64 u0.Size, .slice ao1 u0.Data.length cap2] 38] Z469 wd463 := hM466; clear hM466
        refine nl (qnI (hJ _ _ ?_)); clear hJ J
        exact ⟨ao467, cap468, .slice ao467 rsizes.length cap468, ud61, ud62, ud63, ud64, ud65, .row b6 [.int .i64 u0.ID, .bool u0.Long, .bool u0.Fast, .bool u0.Remote, .int .i64 u0.Size, .slice ao1 u0.Data.length cap2] 38, .own (tyInt .i64) 3 ao467 cap468 rsizes, Z469, hle452.trans hzst, hF465.region (by kernel_rfl) (by kernel_rfl), hM471.perm ((pk 1 rfl).trans ((List.Perm.refl _).cons _)), kf, cu61, cu62, cu63, (nt hx4), (nt hx5), rfl, nu, kf2, (nt hx4), (nt hx4)⟩
       · -- 1: fieldAddr
        obtain rfl := Option.some.inj hi
        have hx1 := hSi
        have hx2 := negF hcl 2 1 (by kernel_rfl) hx1
        have hx3 := negF hcl 3 2 (by kernel_rfl) hx2
        have hx4 := negF hcl 4 3 (by kernel_rfl) hx3
        have hx5 := negF hcl 5 4 (by kernel_rfl) hx4
        obtain rfl := cr0_0
        refine hG (any_step ?_); clear hG G; intro A J hJ
        have hle0 := Fz.le.trans hle0 hle452
        have hzst := Fz.le.refl Z451
        have hs473 := hs3.mono hle452
        refine s1 hFx 61 (.pointer (some ⟨b6, 5, none⟩)) ?_; intro a474 hF475; clear hFx
        refine nl (qnI (hJ _ _ ?_)); clear hJ J
        exact ⟨ao429, cap430, ud60, .pointer (some ⟨b6, 5, none⟩), ud62, ud63, ud64, ud65, .row b6 [.int .i64 u0.ID, .bool u0.Long, .bool u0.Fast, .bool u0.Remote, .int .i64 u0.Size, .slice ao1 u0.Data.length cap2] 38, rh1, Z451, hle452, hF475.region (by kernel_rfl) (by kernel_rfl), hMx.perm (List.Perm.refl _), cu60, kf, (nt hx2), (nt hx3), (nt hx4), (nt hx5), rfl, cr1_0, cr1_1, (nt hx4), (nt hx4)⟩
       · -- 2: load
        obtain rfl := Option.some.inj hi
        have hx1 := hpre 1 (by kernel_rfl)
        have hx2 := hSi
        have hx3 := negF hcl 3 2 (by kernel_rfl) hx2
        have hx4 := negF hcl 4 3 (by kernel_rfl) hx3
        have hx5 := negF hcl 5 4 (by kernel_rfl) hx4
        obtain rfl := cu61 hx1
        obtain rfl := cr0_0
        refine hG (any_step ?_); clear hG G; intro A J hJ
        have hle0 := Fz.le.trans hle0 hle452
        have hzst := Fz.le.refl Z451
        have hs477 := hs3.mono hle452
        refine l1 hFx hMx 62 0 5 (.slice ao1 u0.Data.length cap2) rfl rfl ?_; intro a478 hF479; clear hFx
        refine nl (qnI (hJ _ _ ?_)); clear hJ J
        exact ⟨ao429, cap430, ud60, .pointer (some ⟨b6, 5, none⟩), .slice ao1 u0.Data.length cap2, ud63, ud64, ud65, .row b6 [.int .i64 u0.ID, .bool u0.Long, .bool u0.Fast, .bool u0.Remote, .int .i64 u0.Size, .slice ao1 u0.Data.length cap2] 38, rh1, Z451, hle452, hF479.region (by kernel_rfl) (by kernel_rfl), hMx.perm (List.Perm.refl _), cu60, kf, kf, (nt hx3), (nt hx4), (nt hx5), rfl, cr1_0, cr1_1, (nt hx4), (nt hx4)⟩
       · -- 3: call
        obtain rfl := Option.some.inj hi
        have hx2 := hpre 2 (by kernel_rfl)
        have hx1 := hcl 2 1 (by kernel_rfl) hx2
        have hx3 := hSi
        have hx4 := negF hcl 4 3 (by kernel_rfl) hx3
        have hx5 := negF hcl 5 4 (by kernel_rfl) hx4
        obtain rfl := cu61 hx1
        obtain rfl := cu62 hx2
        obtain rfl := cr0_0
        refine hG (any_step ?_); clear hG G; intro A J hJ
        have hle0 := Fz.le.trans hle0 hle452
        have hzst := Fz.le.refl Z451
        have hs481 := hs3.mono hle452
        refine s1 hFx 63 (.int .i64 (u0.Data.length : Int)) ?_; intro a482 hF483; clear hFx
        refine nl (qnI (hJ _ _ ?_)); clear hJ J
        exact ⟨ao429, cap430, ud60, .pointer (some ⟨b6, 5, none⟩), .slice ao1 u0.Data.length cap2, .int .i64 (u0.Data.length : Int), ud64, ud65, .row b6 [.int .i64 u0.ID, .bool u0.Long, .bool u0.Fast, .bool u0.Remote, .int .i64 u0.Size, .slice ao1 u0.Data.length cap2] 38, rh1, Z451, hle452, hF483.region (by kernel_rfl) (by kernel_rfl), hMx.perm (List.Perm.refl _), cu60, kf, kf, kf, (nt hx4), (nt hx5), rfl, cr1_0, cr1_1, (nt hx4), (nt hx4)⟩
       · -- 4: call
        obtain rfl := Option.some.inj hi
        have hx3 := hpre 3 (by kernel_rfl)
        have hx0 := hpre 0 (by kernel_rfl)
        have hx2 := hcl 3 2 (by kernel_rfl) hx3
        have hx1 := hcl 2 1 (by kernel_rfl) hx2
        have hx4 := hSi
        have hx5 := negF hcl 5 4 (by kernel_rfl) hx4
        obtain rfl := cu60 hx0
        obtain rfl := cu61 hx1
        obtain rfl := cu62 hx2
        obtain rfl := cu63 hx3
        obtain rfl := cr0_0
        obtain rfl := cr1_1 hx0 hx4
        refine hG (any_step ?_); clear hG G; intro A J hJ
        have hle0 := Fz.le.trans hle0 hle452
        have hzst := Fz.le.refl Z451
        have hs485 := hs3.mono hle452
        obtain ⟨Z486, hle487, hM488, hs489⟩ := hMx.freeze 1 rfl
        replace hzst := hzst.mono hle487
        replace hs485 := hs485.mono hle487
        replace hle0 := Fz.le.trans hle0 hle487
        have hM490 : Mem w.heap.size [] w Z [.row b6 [.int .i64 u0.ID, .bool u0.Long, .bool u0.Fast, .bool u0.Remote, .int .i64 u0.Size, .slice ao1 u0.Data.length cap2] 38] Z486 w1 := hM488; clear hM488
        refine fcl hFx hM490 (.bool (scontainsS rsizes (u0.Data.length : Int))) 54 #[.slice ao429 rsizes.length cap430, .int .i64 (u0.Data.length : Int)] (nog rfl _) rfl (by kernel_rfl) (fun _ => by kernel_rfl) (scontains_fun rsizes (u0.Data.length : Int) ao429 cap430 _ _ hs489 hM490.fz) ?_; intro a491 wd493 hF492 hM494; clear hFx hM490
        refine nl (qnI (hJ _ _ ?_)); clear hJ J
        have hM495 := hM494.nilRes
        exact ⟨ao429, cap430, .slice ao429 rsizes.length cap430, .pointer (some ⟨b6, 5, none⟩), .slice ao1 u0.Data.length cap2, .int .i64 (u0.Data.length : Int), .bool (scontainsS rsizes (u0.Data.length : Int)), ud65, .row b6 [.int .i64 u0.ID, .bool u0.Long, .bool u0.Fast, .bool u0.Remote, .int .i64 u0.Size, .slice ao1 u0.Data.length cap2] 38, .nil, Z486, hle452.trans hzst, hF492.region (by kernel_rfl) (by kernel_rfl), hM495.perm ((pk 1 rfl).trans ((List.Perm.refl _).cons _)), kf, kf, kf, kf, kf, (nt hx5), rfl, (tn hx0), (fun _ => nu), kf, (fun _ => hs489)⟩
       · -- 5: unOp
        obtain rfl := Option.some.inj hi
        have hx4 := hpre 4 (by kernel_rfl)
        have hx3 := hcl 4 3 (by kernel_rfl) hx4
        have hx0 := hcl 4 0 (by kernel_rfl) hx4
        have hx2 := hcl 3 2 (by kernel_rfl) hx3
        have hx1 := hcl 2 1 (by kernel_rfl) hx2
        have hx5 := hSi
        obtain rfl := cu60 hx0
        obtain rfl := cu61 hx1
        obtain rfl := cu62 hx2
        obtain rfl := cu63 hx3
        obtain rfl := cu64 hx4
        obtain rfl := cr0_0
        obtain rfl := cr1_2 hx4
        refine hG (any_step ?_); clear hG G; intro A J hJ
        have hle0 := Fz.le.trans hle0 hle452
        have hzst := Fz.le.refl Z451
        have hs497 := hs3.mono hle452
        have hs498 := cf0 hx4
        have hM499 := hMx.keep (List.Sublist.cons_cons _ (List.Sublist.cons _ (List.Sublist.slnil))); clear hMx
        refine s1 hFx 65 (.bool (!(scontainsS rsizes (u0.Data.length : Int)))) ?_; intro a500 hF501; clear hFx
        refine nl (qnI (hJ _ _ ?_)); clear hJ J
        have hM502 := hM499.nilRes
        exact ⟨ao429, cap430, .slice ao429 rsizes.length cap430, .pointer (some ⟨b6, 5, none⟩), .slice ao1 u0.Data.length cap2, .int .i64 (u0.Data.length : Int), .bool (scontainsS rsizes (u0.Data.length : Int)), .bool (!(scontainsS rsizes (u0.Data.length : Int))), .row b6 [.int .i64 u0.ID, .bool u0.Long, .bool u0.Fast, .bool u0.Remote, .int .i64 u0.Size, .slice ao1 u0.Data.length cap2] 38, .nil, Z451, hle452, hF501.region (by kernel_rfl) (by kernel_rfl), hM502.perm ((pk 1 rfl).trans ((List.Perm.refl _).cons _)), kf, kf, kf, kf, kf, kf, rfl, (tn hx0), (fun _ => tn hx4), kf, (fun _ => hs498)⟩
      case hE =>
       intro S hS a504 wd505 hI; refine hid ?_; intro G hG; obtain ⟨ao429, hI⟩ := hI; obtain ⟨cap430, hI⟩ := hI; obtain ⟨ud60, hI⟩ := hI; obtain ⟨ud61, hI⟩ := hI; obtain ⟨ud62, hI⟩ := hI; obtain ⟨ud63, hI⟩ := hI; obtain ⟨ud64, hI⟩ := hI; obtain ⟨ud65, hI⟩ := hI; obtain ⟨rh0, hI⟩ := hI; obtain ⟨rh1, hI⟩ := hI; obtain ⟨Z451, hI⟩ := hI; obtain ⟨hle452, hI⟩ := hI; obtain ⟨hFx, hI⟩ := hI; obtain ⟨hMx, hI⟩ := hI; obtain ⟨cu60, hI⟩ := hI; obtain ⟨cu61, hI⟩ := hI; obtain ⟨cu62, hI⟩ := hI; obtain ⟨cu63, hI⟩ := hI; obtain ⟨cu64, hI⟩ := hI; obtain ⟨cu65, hI⟩ := hI; obtain ⟨cr0_0, hI⟩ := hI; obtain ⟨cr1_0, hI⟩ := hI; obtain ⟨cr1_1, hI⟩ := hI; obtain ⟨cr1_2, hI⟩ := hI; have cf0 := hI; clear hI; refine hG ?_; clear hG G
       obtain rfl := cu60 (hS 0 (by decide))
       obtain rfl := cu61 (hS 1 (by decide))
       obtain rfl := cu62 (hS 2 (by decide))
       obtain rfl := cu63 (hS 3 (by decide))
       obtain rfl := cu64 (hS 4 (by decide))
       obtain rfl := cu65 (hS 5 (by decide))
       obtain rfl := cr0_0
       obtain rfl := cr1_2 (hS 4 (by decide))
       have hle0 := Fz.le.trans hle0 hle452
       have hs506 := hs3.mono hle452
       have hs507 := cf0 (hS 4 (by decide))
       have hMx := hMx.keep (List.Sublist.cons_cons _ (List.Sublist.cons _ (List.Sublist.slnil)))
       refine thn ?_
       refine cd hFx (t := !(scontainsS rsizes (u0.Data.length : Int))) (by kernel_rfl) (fun hb508 => ?_) (fun hb508 => ?_)
       · -- yes
        have hp509 := hp423.1 hb508; clear hp423
        have hF510 : Fr 66 [] [] a504 := hFx.region (by kernel_rfl) (by kernel_rfl); clear hFx
        refine sqH ?_; intro hQ511Q hQ511
        refine s1 hF510 2 (.int .i64 4) ?_; intro a512 hF513; clear hF510
        refine nlH (hQ511 _ _ ?_); clear hQ511 hQ511Q
        refine wp_ret ?_
        refine thr ?_
        refine rt (fn := Try.f27) (v := .int .i64 4) hF513 (re1 hF513 (fn := Try.f27) rfl (by kernel_rfl)) ?_
        exact ⟨4, rfl, hp509, hMx.below⟩
       · -- no
        have hp514 := hp423.2 hb508; clear hp423
        refine wp_skip ?_
        refine thn ?_
        have hF515 : Fr 66 [] [] a504 := hFx.region (by kernel_rfl) (by kernel_rfl); clear hFx
        refine sqH ?_; intro hQ516Q hQ516
        refine s1 hF515 2 (.int .i64 0) ?_; intro a517 hF518; clear hF515
        refine nlH (hQ516 _ _ ?_); clear hQ516 hQ516Q
        refine wp_ret ?_
        refine rt (fn := Try.f27) (v := .int .i64 0) hF518 (re1 hF518 (fn := Try.f27) rfl (by kernel_rfl)) ?_
        exact ⟨0, rfl, hp514, hMx.below⟩
theorem rcheckfr_fun (u0 : Frame) (ao1 : Option Addr) (cap2 : Nat) (Z : Fz) (w : World) (hs3 : SlR (tyInt .u8) Z ao1 cap2 u0.Data) (hZ : Z.on w) : Calls Try.prog 27 #[.agg #[.int .i64 u0.ID, .bool u0.Long, .bool u0.Fast, .bool u0.Remote, .int .i64 u0.Size, .slice ao1 u0.Data.length cap2]] w fun e w' => e = .returned (.int .i64 (rcheckfr u0)) ∧ Below w.heap.size w w' :=
  (rcheckfr_walk u0 ao1 cap2 Z w hs3 hZ (rcheckfr_ok u0)).mono fun _ _ ⟨r, he, hk, hb⟩ => ⟨by subst hk; exact he, hb⟩

set_option maxRecDepth 100000 in
theorem lets_walk (u0 : List Filter) (u1 : Frame) (ao1 : Option Addr) (cap2 : Nat) (ao4 : Option Addr) (cap5 : Nat) (Z : Fz) (w : World) (hs3 : SlR tyFilter Z ao1 cap2 u0) (hs6 : SlR (tyInt .u8) Z ao4 cap5 u1.Data) (hZ : Z.on w) {K : Bool → Prop} (hp : lets_vc u0 u1 K) : Calls Try.prog 53 #[.slice ao1 u0.length cap2, .agg #[.int .i64 u1.ID, .bool u1.Long, .bool u1.Fast, .bool u1.Remote, .int .i64 u1.Size, .slice ao4 u1.Data.length cap5]] w fun e w' => ∃ r : Bool, e = .returned (.bool r) ∧ K r ∧ Below w.heap.size w w' := by
 refine enter0 Try.func53 rfl rfl (by kernel_rfl) ?_; intro a0 hF0; have hM0 := Mem.start w Z hZ; have hle0 := Fz.le.refl Z
 have hp7 := hp (hs3.small); clear hp
 have hp8 := hp7 (hs6.small); clear hp7
 refine sqH ?_; intro hQ9Q hQ9
 refine sn hF0 hM0 (fun b => .pointer (some ⟨b, 0, none⟩)) [.int .i64 u1.ID, .bool u1.Long, .bool u1.Fast, .bool u1.Remote, .int .i64 u1.Size, .slice ao4 u1.Data.length cap5] 38 (nog rfl _) rfl (by kernel_rfl) (by kernel_rfl) ?_; intro b10 a11 wd13 hF12 hM14; clear hF0 hM0
 refine s1 hF12 4 (.bool false) ?_; intro a15 hF16; clear hF12
 refine nlH (hQ9 _ _ ?_); clear hQ9 hQ9Q
 refine sqH ?_; intro hQ17Q hQ17
 refine s1 hF16 5 (.slice ao1 u0.length cap2) ?_; intro a18 hF19; clear hF16
 refine s1 hF19 6 (.func (.func 65) #[] #[.pointer (some ⟨b10, 0, none⟩)]) ?_; intro a20 hF21; clear hF19
 obtain ⟨Z22, hle23, hM24, hP25⟩ := hM14.freezeRow 0 rfl
 replace hs3 := hs3.mono hle23
 replace hs6 := hs6.mono hle23
 replace hle0 := Fz.le.trans hle0 hle23
 have hM26 : Mem w.heap.size [] w Z [] Z22 wd13 := hM24; clear hM24
 refine fcl hF21 hM26 (.bool (fcontfS u0 (fun x0 => lets1 x0 u1))) 20 #[.slice ao1 u0.length cap2, .func (.func 65) #[] #[.pointer (some ⟨b10, 0, none⟩)]] (nog rfl _) rfl (by kernel_rfl) (fun _ => by kernel_rfl) (fcontf_fun u0 (fun x0 => lets1 x0 u1) ao1 cap2 65 #[.pointer (some ⟨b10, 0, none⟩)] _ _ hs3 (fun Z1 w1 h1 h2 x0 => lets1_fun x0 u1 b10 0 ao4 cap5 Z1 w1 (hP25.mono h1) (SlR.mono hs6 h1) h2) (fun _ _ => by kernel_rfl) hM26.fz) ?_; intro a27 wd29 hF28 hM30; clear hF21 hM26
 refine s1 hF28 4 (.bool (fcontfS u0 (fun x0 => lets1 x0 u1))) ?_; intro a31 hF32; clear hF28
 refine nlH (hQ17 _ _ ?_); clear hQ17 hQ17Q
 refine wp_ret ?_
 refine rt (fn := Try.f53) (v := .bool (fcontfS u0 (fun x0 => lets1 x0 u1))) hF32 (re1 hF32 (fn := Try.f53) rfl (by kernel_rfl)) ?_
 exact ⟨(fcontfS u0 (fun x0 => lets1 x0 u1)), rfl, hp8, hM30.below⟩
theorem lets_fun (u0 : List Filter) (u1 : Frame) (ao1 : Option Addr) (cap2 : Nat) (ao4 : Option Addr) (cap5 : Nat) (Z : Fz) (w : World) (hs3 : SlR tyFilter Z ao1 cap2 u0) (hs6 : SlR (tyInt .u8) Z ao4 cap5 u1.Data) (hZ : Z.on w) : Calls Try.prog 53 #[.slice ao1 u0.length cap2, .agg #[.int .i64 u1.ID, .bool u1.Long, .bool u1.Fast, .bool u1.Remote, .int .i64 u1.Size, .slice ao4 u1.Data.length cap5]] w fun e w' => e = .returned (.bool (lets u0 u1)) ∧ Below w.heap.size w w' :=
  (lets_walk u0 u1 ao1 cap2 ao4 cap5 Z w hs3 hs6 hZ (lets_ok u0 u1)).mono fun _ _ ⟨r, he, hk, hb⟩ => ⟨by subst hk; exact he, hb⟩

set_option maxRecDepth 100000 in
theorem filterin_walk (u0 : List Filter) (u1 : Frame) (ao1 : Option Addr) (cap2 : Nat) (ao4 : Option Addr) (cap5 : Nat) (Z : Fz) (w : World) (hs3 : SlR tyFilter Z ao1 cap2 u0) (hs6 : SlR (tyInt .u8) Z ao4 cap5 u1.Data) (hZ : Z.on w) {K : ((List Int) × Int) → Prop} (hp : filterin_vc u0 u1 K) : Calls Try.prog 25 #[.slice ao1 u0.length cap2, .agg #[.int .i64 u1.ID, .bool u1.Long, .bool u1.Fast, .bool u1.Remote, .int .i64 u1.Size, .slice ao4 u1.Data.length cap5]] w fun e w' => ∃ (r : (List Int) × Int) (ao1001 : Option Addr) (cap1002 : Nat) (Z' : Fz), e = .returned (.tuple #[.slice ao1001 r.1.length cap1002, .int .i64 r.2]) ∧ K r ∧ Mem w.heap.size [] w Z [.own (tyInt .i64) 3 ao1001 cap1002 r.1] Z' w' := by
 refine enter0 Try.func25 rfl rfl (by kernel_rfl) ?_; intro a0 hF0; have hM0 := Mem.start w Z hZ; have hle0 := Fz.le.refl Z
 have hp7 := hp (hs3.small); clear hp
 have hp8 := hp7 (hs6.small); clear hp7
 refine sqH ?_; intro hQ9Q hQ9
 refine sn hF0 hM0 (fun b => .pointer (some ⟨b, 0, none⟩)) [.int .i64 u1.ID, .bool u1.Long, .bool u1.Fast, .bool u1.Remote, .int .i64 u1.Size, .slice ao4 u1.Data.length cap5] 38 (nog rfl _) rfl (by kernel_rfl) (by kernel_rfl) ?_; intro b10 a11 wd13 hF12 hM14; clear hF0 hM0
 refine s1 hF12 4 (.slice none 0 0) ?_; intro a15 hF16; clear hF12
 refine s1 hF16 5 (.int .i64 0) ?_; intro a17 hF18; clear hF16
 refine nlH (hQ9 _ _ ?_); clear hQ9 hQ9Q
 refine wp_seq ?_
 refine sqH ?_; intro hQ19Q hQ19
 refine s1 hF18 10 (.slice ao1 u0.length cap2) ?_; intro a20 hF21; clear hF18
 refine fcl hF21 hM14 (.int .i64 (fcheckS u0)) 26 #[.slice ao1 u0.length cap2] (nog rfl _) rfl (by kernel_rfl) (fun _ => by kernel_rfl) (fcheck_fun u0 ao1 cap2 _ _ hs3 hM14.fz) ?_; intro a22 wd24 hF23 hM25; clear hF21 hM14
 refine s1 hF23 6 (.int .i64 (fcheckS u0)) ?_; intro a26 hF27; clear hF23
 refine nlH (hQ19 _ _ ?_); clear hQ19 hQ19Q
 refine sqH ?_; intro hQ28Q hQ28
 refine s1 hF27 12 (.int .i64 (fcheckS u0)) ?_; intro a29 hF30; clear hF27
 refine s1 hF30 13 (.bool ((fcheckS u0) != 0)) ?_; intro a31 hF32; clear hF30
 refine nlH (hQ28 _ _ ?_); clear hQ28 hQ28Q
 refine cd hF32 (t := (fcheckS u0) != 0) (by kernel_rfl) (fun hb33 => ?_) (fun hb33 => ?_)
 · -- yes
  have hp34 := hp8.1 hb33; clear hp8
  refine sqH ?_; intro hQ35Q hQ35
  refine s1 hF32 14 (.int .i64 (fcheckS u0)) ?_; intro a36 hF37; clear hF32
  refine s1 hF37 4 (.slice none 0 0) ?_; intro a38 hF39; clear hF37
  refine s1 hF39 5 (.int .i64 (fcheckS u0)) ?_; intro a40 hF41; clear hF39
  refine nlH (hQ35 _ _ ?_); clear hQ35 hQ35Q
  refine wp_ret ?_
  refine thr ?_
  have hM42 : Mem w.heap.size [] w Z [.own (tyInt .i64) 3 none 0 ([] : List Int), .row b10 [.int .i64 u1.ID, .bool u1.Long, .bool u1.Fast, .bool u1.Remote, .int .i64 u1.Size, .slice ao4 u1.Data.length cap5] 38] Z wd24 := hM25.addNil (tyInt .i64) 3 (by decide); clear hM25
  refine rt (fn := Try.f25) (v := .tuple #[.slice none ([] : List Int).length 0, .int .i64 (fcheckS u0)]) hF41 (re2 hF41 (fn := Try.f25) rfl (by kernel_rfl) (by kernel_rfl)) ?_
  exact ⟨(([] : List Int), (fcheckS u0)), none, 0, Z, rfl, hp34, hM42.keep (List.Sublist.cons_cons _ (List.Sublist.cons _ (List.Sublist.slnil)))⟩
 · -- no
  have hp43 := hp8.2 hb33; clear hp8
  refine wp_skip ?_
  refine thn ?_
  refine wp_seq ?_
  refine sqH ?_; intro hQ44Q hQ44
  refine l2 hF32 hM25 15 0 0 6 [.int .i64 u1.ID, .bool u1.Long, .bool u1.Fast, .bool u1.Remote, .int .i64 u1.Size, .slice ao4 u1.Data.length cap5] rfl rfl ?_; intro a45 hF46; clear hF32
  refine fcl hF46 hM25 (.int .i64 (fcheckfr u1)) 52 #[.agg #[.int .i64 u1.ID, .bool u1.Long, .bool u1.Fast, .bool u1.Remote, .int .i64 u1.Size, .slice ao4 u1.Data.length cap5]] (nog rfl _) rfl (by kernel_rfl) (fun _ => by kernel_rfl) (fcheckfr_fun u1 ao4 cap5 _ _ hs6 hM25.fz) ?_; intro a47 wd49 hF48 hM50; clear hF46 hM25
  refine s1 hF48 7 (.int .i64 (fcheckfr u1)) ?_; intro a51 hF52; clear hF48
  refine nlH (hQ44 _ _ ?_); clear hQ44 hQ44Q
  refine sqH ?_; intro hQ53Q hQ53
  refine s1 hF52 17 (.int .i64 (fcheckfr u1)) ?_; intro a54 hF55; clear hF52
  refine s1 hF55 18 (.bool ((fcheckfr u1) != 0)) ?_; intro a56 hF57; clear hF55
  refine nlH (hQ53 _ _ ?_); clear hQ53 hQ53Q
  refine cd hF57 (t := (fcheckfr u1) != 0) (by kernel_rfl) (fun hb58 => ?_) (fun hb58 => ?_)
  · -- yes
   have hp59 := hp43.1 hb58; clear hp43
   refine sqH ?_; intro hQ60Q hQ60
   refine s1 hF57 19 (.int .i64 (fcheckfr u1)) ?_; intro a61 hF62; clear hF57
   refine s1 hF62 4 (.slice none 0 0) ?_; intro a63 hF64; clear hF62
   refine s1 hF64 5 (.int .i64 (fcheckfr u1)) ?_; intro a65 hF66; clear hF64
   refine nlH (hQ60 _ _ ?_); clear hQ60 hQ60Q
   refine wp_ret ?_
   refine thr ?_
   have hM67 : Mem w.heap.size [] w Z [.own (tyInt .i64) 3 none 0 ([] : List Int), .row b10 [.int .i64 u1.ID, .bool u1.Long, .bool u1.Fast, .bool u1.Remote, .int .i64 u1.Size, .slice ao4 u1.Data.length cap5] 38] Z wd49 := hM50.addNil (tyInt .i64) 3 (by decide); clear hM50
   refine rt (fn := Try.f25) (v := .tuple #[.slice none ([] : List Int).length 0, .int .i64 (fcheckfr u1)]) hF66 (re2 hF66 (fn := Try.f25) rfl (by kernel_rfl) (by kernel_rfl)) ?_
   exact ⟨(([] : List Int), (fcheckfr u1)), none, 0, Z, rfl, hp59, hM67.keep (List.Sublist.cons_cons _ (List.Sublist.cons _ (List.Sublist.slnil)))⟩
  · -- no
   have hp68 := hp43.2 hb58; clear hp43
   refine wp_skip ?_
   refine thn ?_
   refine sqH ?_; intro hQ69Q hQ69
   refine s1 hF57 8 (.slice none 0 0) ?_; intro a70 hF71; clear hF57
   refine nlH (hQ69 _ _ ?_); clear hQ69 hQ69Q
   refine wp_seq ?_
   have hF72 : Fr 38 [] [⟨0, [], .slice ao1 u0.length cap2⟩, ⟨3, [], .pointer (some ⟨b10, 0, none⟩)⟩, ⟨8, [], .slice none 0 0⟩] a70 := hF71.region (by kernel_rfl) (by kernel_rfl); clear hF71
   refine sqH ?_; intro hQ73Q hQ73
   refine s1 hF72 20 (.slice ao1 u0.length cap2) ?_; intro a74 hF75; clear hF72
   refine s1 hF75 21 (.int .i64 (u0.length : Int)) ?_; intro a76 hF77; clear hF75
   refine s1 hF77 22 (.int .i64 0) ?_; intro a78 hF79; clear hF77
   refine nlH (hQ73 _ _ ?_); clear hQ73 hQ73Q
   refine wp_block ?_
   have hF80 : Fr 38 [] [⟨0, [], .slice ao1 u0.length cap2⟩, ⟨3, [], .pointer (some ⟨b10, 0, none⟩)⟩, ⟨8, [], .slice none 0 0⟩, ⟨21, [], .int .i64 (u0.length : Int)⟩, ⟨22, [], .int .i64 0⟩] a78 := hF79.region (by kernel_rfl) (by kernel_rfl); clear hF79
   have hM82 : Mem w.heap.size [] w Z [.own (tyInt .i64) 3 none 0 ([] : List Int), .row b10 [.int .i64 u1.ID, .bool u1.Long, .bool u1.Fast, .bool u1.Remote, .int .i64 u1.Size, .slice ao4 u1.Data.length cap5] 38] Z wd49 := hM50.addNil (tyInt .i64) 3 (by decide); clear hM50
   have hF83 : Fr 38 [] [⟨0, [], .slice ao1 u0.length cap2⟩, ⟨3, [], .pointer (some ⟨b10, 0, none⟩)⟩, ⟨8, [], .slice none ([] : List Int).length 0⟩, ⟨21, [], .int .i64 (u0.length : Int)⟩, ⟨22, [], .int .i64 0⟩] a78 := hF80.region (by kernel_rfl) (by kernel_rfl); clear hF80
   obtain ⟨inv81, mu81, hI86, hr85⟩ := hp68
   refine lp (ι := (List Int) × Int × (Option Addr) × Nat) (fun (s : (List Int) × Int × (Option Addr) × Nat) => [⟨0, [], .slice ao1 u0.length cap2⟩, ⟨3, [], .pointer (some ⟨b10, 0, none⟩)⟩, ⟨8, [], .slice s.2.2.1 s.1.length s.2.2.2⟩, ⟨21, [], .int .i64 (u0.length : Int)⟩, ⟨22, [], .int .i64 s.2.1⟩]) (fun (s : (List Int) × Int × (Option Addr) × Nat) => [.own (tyInt .i64) 3 s.2.2.1 s.2.2.2 s.1, .row b10 [.int .i64 u1.ID, .bool u1.Long, .bool u1.Fast, .bool u1.Remote, .int .i64 u1.Size, .slice ao4 u1.Data.length cap5] 38]) (fun (s : (List Int) × Int × (Option Addr) × Nat) => Z) (fun (s : (List Int) × Int × (Option Addr) × Nat) => inv81 s.1 s.2.1) (fun (s : (List Int) × Int × (Option Addr) × Nat) => mu81 s.1 s.2.1) ⟨([] : List Int), 0, none, 0⟩ hI86 (by exact hF83.region (by kernel_rfl) (by kernel_rfl)) (by exact hM82) ?_
   rintro ⟨x8, x22, aox8, capx8⟩ hI84 a88 wd89 hF90 hM91
   have hF92 : Fr 38 [] [⟨0, [], .slice ao1 u0.length cap2⟩, ⟨3, [], .pointer (some ⟨b10, 0, none⟩)⟩, ⟨8, [], .slice aox8 x8.length capx8⟩, ⟨21, [], .int .i64 (u0.length : Int)⟩, ⟨22, [], .int .i64 x22⟩] a88 := hF90; clear hF90 hF83
   have hM93 : Mem w.heap.size [] w Z [.own (tyInt .i64) 3 aox8 capx8 x8, .row b10 [.int .i64 u1.ID, .bool u1.Long, .bool u1.Fast, .bool u1.Remote, .int .i64 u1.Size, .slice ao4 u1.Data.length cap5] 38] Z wd89 := hM91; clear hM91 hM82
   have hp94 := hr85 x8 x22 hI84
   refine sqH ?_; intro hQ95Q hQ95
   refine s1 hF92 23 (.bool (decide (x22 < (u0.length : Int)))) ?_; intro a96 hF97; clear hF92
   refine nlH (hQ95 _ _ ?_); clear hQ95 hQ95Q
   refine wp_seq ?_
   refine cd hF97 (t := decide (x22 < (u0.length : Int))) (by kernel_rfl) (fun hb98 => ?_) (fun hb98 => ?_)
   · -- yes
    have hp99 := hp94.1 hb98; clear hp94
    refine wp_skip ?_
    refine thn ?_
    refine wp_seq ?_
    refine wp_block ?_
    refine sqH ?_; intro hQ100Q hQ100
    refine s1 hF97 24 (.int .i64 x22) ?_; intro a101 hF102; clear hF97
    refine s1 hF102 9 (.int .i64 x22) ?_; intro a103 hF104; clear hF102
    refine nlH (hQ100 _ _ ?_); clear hQ100 hQ100Q
    have hF105 : Fr 38 [] [⟨0, [], .slice ao1 u0.length cap2⟩, ⟨3, [], .pointer (some ⟨b10, 0, none⟩)⟩, ⟨8, [], .slice aox8 x8.length capx8⟩, ⟨9, [], .int .i64 x22⟩, ⟨21, [], .int .i64 (u0.length : Int)⟩, ⟨22, [], .int .i64 x22⟩] a103 := hF104.region (by kernel_rfl) (by kernel_rfl); clear hF104
    refine sqQH mixed (by kernel_rfl) hM93 ?_; intro hQ106Q hQ106
    refine q1 hF105 25 (.slice ao1 u0.length cap2) ?_; intro a108 hF109; clear hF105
    refine q1 hF109 26 (.int .i64 x22) ?_; intro a111 hF112; clear hF109
    refine q1 hF112 27 (.int .i64 x22) ?_; intro a114 hF115; clear hF112
    refine q1 hF115 28 (.int .i64 (w64 (x22 + 1))) ?_; intro a117 hF118; clear hF115
    have hc120 := hp99.1; have hp121 := hp99.2; clear hp99
    refine qslI hF118 (T := tyFilter) (xs := u0) hs3 x22 (w64 (x22 + 1)) hc120 (k := .i64) (k' := .i64) (e := 28) (bytes := 24) (nog rfl _) rfl (by kernel_rfl) rfl (by kernel_rfl) (by kernel_rfl) (by kernel_rfl) (by kernel_rfl) ?_; intro ao122 cap123 a126 hn124 hs125 hF127; clear hF118
    refine qst hF127 (.agg #[.int .i64 u1.ID, .bool u1.Long, .bool u1.Fast, .bool u1.Remote, .int .i64 u1.Size, .slice ao4 u1.Data.length cap5]) (nog rfl _) rfl (by kernel_rfl) (fun v128 hC => lda hF127 hC 1 (g := []) (b := b10) (off := 0) (k := 6) (cs := [.int .i64 u1.ID, .bool u1.Long, .bool u1.Fast, .bool u1.Remote, .int .i64 u1.Size, .slice ao4 u1.Data.length cap5]) (vs := [.int .i64 u1.ID, .bool u1.Long, .bool u1.Fast, .bool u1.Remote, .int .i64 u1.Size, .slice ao4 u1.Data.length cap5]) (ty := 38) rfl (by kernel_rfl) (by kernel_rfl) (by kernel_rfl) (by kernel_rfl) (by kernel_rfl) rfl) ?_; intro a129 hF130; clear hF127
    refine qcl hF130 (.bool (lets ((u0.take (w64 (x22 + 1)).toNat).drop x22.toNat) u1)) 53 #[.slice ao122 ((u0.take (w64 (x22 + 1)).toNat).drop x22.toNat).length cap123, .agg #[.int .i64 u1.ID, .bool u1.Long, .bool u1.Fast, .bool u1.Remote, .int .i64 u1.Size, .slice ao4 u1.Data.length cap5]] (nog rfl _) rfl (by kernel_rfl) (fun _ => by kernel_rfl) (qfc fun w hC => lets_fun ((u0.take (w64 (x22 + 1)).toNat).drop x22.toNat) u1 ao122 cap123 ao4 cap5 _ _ hs125 hs6 hC.fz) ?_; intro a132 hF133; clear hF130
    refine qnl (hQ106 _ ?_); clear hQ106 hQ106Q; intro wd134 hM135; clear hM93
    refine cd hF133 (t := (lets ((u0.take (w64 (x22 + 1)).toNat).drop x22.toNat) u1)) (by kernel_rfl) (fun hb136 => ?_) (fun hb136 => ?_)
    · -- yes
     have hp137 := hp121.1 hb136; clear hp121
     refine rgH ?_; intro hQ138Q hQ138
     refine s1 hF133 32 (.slice aox8 x8.length capx8) ?_; intro a139 hF140; clear hF133
     refine s1 hF140 33 (.int .i64 x22) ?_; intro a141 hF142; clear hF140
     refine sn hF142 hM135 (fun b => .slice (some ⟨b, 0, none⟩) 1 1) [.int .i64 x22] 3 (nog rfl _) rfl (by kernel_rfl) (by kernel_rfl) ?_; intro b143 a144 wd146 hF145 hM147; clear hF142 hM135
     have hc148 := hp137.1; have hp149 := hp137.2; clear hp137
     refine ap hF145 hM147 1 (T := (tyInt .i64)) (xs := x8) (ys := [x22]) (ao := aox8) (cap := capx8) (ao2 := (some ⟨b143, 0, none⟩)) (cap2 := 1) (t := 43) (e := 3) (bytes := 8) (nog rfl _) rfl (by kernel_rfl) rfl (by kernel_rfl) (by kernel_rfl) (by kernel_rfl) rfl (Src.row hM147 0 rfl (RepAll.one (T := (tyInt .i64)) (x := x22) rfl)) hc148 ?_; intro ao150 cap151 a155 wd152 hnil153 hF156 hM154; clear hF145 hM147
     have hM157 : Mem w.heap.size [] w Z [.row b143 [.int .i64 x22] 3, .own (tyInt .i64) 3 ao150 cap151 (x8 ++ [x22]), .row b10 [.int .i64 u1.ID, .bool u1.Long, .bool u1.Fast, .bool u1.Remote, .int .i64 u1.Size, .slice ao4 u1.Data.length cap5] 38] Z wd152 := hM154; clear hM154
     refine s1 hF156 8 (.slice ao150 (x8 ++ [x22]).length cap151) ?_; intro a158 hF159; clear hF156
     refine nlH (hQ138 _ _ ?_); clear hQ138 hQ138Q
     refine ibn ?_
     refine thn ?_
     refine rgH ?_; intro hQ160Q hQ160
     refine s1 hF159 36 (.int .i64 (w64 (x22 + 1))) ?_; intro a161 hF162; clear hF159
     refine s1 hF162 22 (.int .i64 (w64 (x22 + 1))) ?_; intro a163 hF164; clear hF162
     refine nlH (hQ160 _ _ ?_); clear hQ160 hQ160Q
     refine rd ?_
     exact ⟨⟨x8 ++ [x22], w64 (x22 + 1), ao150, cap151⟩, hp149.1, hp149.2, (hF164.region (by kernel_rfl) (by kernel_rfl)).anyβ _ (by kernel_rfl), hM157.keep (List.Sublist.cons _ (List.Sublist.cons_cons _ (List.Sublist.cons_cons _ (List.Sublist.slnil))))⟩
    · -- no
     have hp165 := hp121.2 hb136; clear hp121
     refine wp_skip ?_
     refine ibn ?_
     refine thn ?_
     refine rgH ?_; intro hQ166Q hQ166
     refine s1 hF133 36 (.int .i64 (w64 (x22 + 1))) ?_; intro a167 hF168; clear hF133
     refine s1 hF168 22 (.int .i64 (w64 (x22 + 1))) ?_; intro a169 hF170; clear hF168
     refine nlH (hQ166 _ _ ?_); clear hQ166 hQ166Q
     refine rd ?_
     exact ⟨⟨x8, w64 (x22 + 1), aox8, capx8⟩, hp165.1, hp165.2, (hF170.region (by kernel_rfl) (by kernel_rfl)).anyβ _ (by kernel_rfl), hM135.keep (List.Sublist.cons_cons _ (List.Sublist.cons_cons _ (List.Sublist.slnil)))⟩
   · -- no
    have hp171 := hp94.2 hb98; clear hp94
    refine wp_exit ?_
    refine thx ?_
    refine thx ?_
    refine ibx ?_
    refine thn ?_
    refine sqH ?_; intro hQ172Q hQ172
    refine s1 hF97 37 (.slice aox8 x8.length capx8) ?_; intro a173 hF174; clear hF97
    refine s1 hF174 4 (.slice aox8 x8.length capx8) ?_; intro a175 hF176; clear hF174
    refine s1 hF176 5 (.int .i64 0) ?_; intro a177 hF178; clear hF176
    refine nlH (hQ172 _ _ ?_); clear hQ172 hQ172Q
    refine wp_ret ?_
    refine rt (fn := Try.f25) (v := .tuple #[.slice aox8 x8.length capx8, .int .i64 0]) hF178 (re2 hF178 (fn := Try.f25) rfl (by kernel_rfl) (by kernel_rfl)) ?_
    exact ⟨(x8, 0), aox8, capx8, Z, rfl, hp171, hM93.keep (List.Sublist.cons_cons _ (List.Sublist.cons _ (List.Sublist.slnil)))⟩

set_option maxRecDepth 100000 in
theorem fcount_walk (u0 : List Filter) (u1 : Int) (u2 : Int) (u3 : Int) (ao1 : Option Addr) (cap2 : Nat) (Z : Fz) (w : World) (hs3 : SlR tyFilter Z ao1 cap2 u0) (hZ : Z.on w) (ih : ∀ (u0' : List Filter) (u1' : Int) (u2' : Int) (u3' : Int), (cmu u0' u1' u2' u3' < cmu u0 u1 u2 u3 ∧ cpre u0' u1' u2' u3') → ∀ (ao1 : Option Addr) (cap2 : Nat) (Z : Fz) (w : World) (hs3 : SlR tyFilter Z ao1 cap2 u0') (hZ : Z.on w), Calls Try.prog 49 #[.slice ao1 u0'.length cap2, .int .i64 u1', .int .i64 u2', .int .i64 u3'] w fun e w' => e = .returned (.int .i64 (countS u0' u1' u2' u3')) ∧ Below w.heap.size w w') {K : Int → Prop} (hp : fcount_vc u0 u1 u2 u3 K) : Calls Try.prog 49 #[.slice ao1 u0.length cap2, .int .i64 u1, .int .i64 u2, .int .i64 u3] w fun e w' => ∃ r : Int, e = .returned (.int .i64 r) ∧ K r ∧ Below w.heap.size w w' := by
 refine enter0 Try.func49 rfl rfl (by kernel_rfl) ?_; intro a0 hF0; have hM0 := Mem.start w Z hZ; have hle0 := Fz.le.refl Z
 have hp4 := hp (hs3.small); clear hp
 refine sqH ?_; intro hQ5Q hQ5
 refine s1 hF0 8 (.int .i64 0) ?_; intro a6 hF7; clear hF0
 refine nlH (hQ5 _ _ ?_); clear hQ5 hQ5Q
 refine wp_seq ?_
 refine sqH ?_; intro hQ8Q hQ8
 refine s1 hF7 19 (.slice ao1 u0.length cap2) ?_; intro a9 hF10; clear hF7
 refine s1 hF10 20 (.int .i64 (u0.length : Int)) ?_; intro a11 hF12; clear hF10
 refine s1 hF12 21 (.bool ((u0.length : Int) == 0)) ?_; intro a13 hF14; clear hF12
 refine nlH (hQ8 _ _ ?_); clear hQ8 hQ8Q
 refine cd hF14 (t := (u0.length : Int) == 0) (by kernel_rfl) (fun hb15 => ?_) (fun hb15 => ?_)
 · -- yes
  have hp16 := hp4.1 hb15; clear hp4
  refine sqH ?_; intro hQ17Q hQ17
  refine s1 hF14 8 (.int .i64 0) ?_; intro a18 hF19; clear hF14
  refine nlH (hQ17 _ _ ?_); clear hQ17 hQ17Q
  refine wp_ret ?_
  refine thr ?_
  refine rt (fn := Try.f49) (v := .int .i64 0) hF19 (re1 hF19 (fn := Try.f49) rfl (by kernel_rfl)) ?_
  exact ⟨0, rfl, hp16, hM0.below⟩
 · -- no
  have hp20 := hp4.2 hb15; clear hp4
  refine wp_skip ?_
  refine thn ?_
  refine sqH ?_; intro hQ21Q hQ21
  refine s1 hF14 9 (.int .i64 0) ?_; intro a22 hF23; clear hF14
  refine nlH (hQ21 _ _ ?_); clear hQ21 hQ21Q
  refine wp_seq ?_
  refine sqH ?_; intro hQ24Q hQ24
  refine s1 hF23 22 (.slice ao1 u0.length cap2) ?_; intro a25 hF26; clear hF23
  refine s1 hF26 23 (.int .i64 (u0.length : Int)) ?_; intro a27 hF28; clear hF26
  refine s1 hF28 24 (.int .i64 0) ?_; intro a29 hF30; clear hF28
  refine nlH (hQ24 _ _ ?_); clear hQ24 hQ24Q
  refine wp_block ?_
  have hF31 : Fr 87 [] [⟨0, [], .slice ao1 u0.length cap2⟩, ⟨1, [], .int .i64 u1⟩, ⟨2, [], .int .i64 u2⟩, ⟨3, [], .int .i64 u3⟩, ⟨9, [], .int .i64 0⟩, ⟨22, [], .slice ao1 u0.length cap2⟩, ⟨23, [], .int .i64 (u0.length : Int)⟩, ⟨24, [], .int .i64 0⟩] a29 := hF30.region (by kernel_rfl) (by kernel_rfl); clear hF30
  have hF33 : Fr 87 [] [⟨0, [], .slice ao1 u0.length cap2⟩, ⟨1, [], .int .i64 u1⟩, ⟨2, [], .int .i64 u2⟩, ⟨3, [], .int .i64 u3⟩, ⟨9, [], .int .i64 0⟩, ⟨22, [], .slice ao1 u0.length cap2⟩, ⟨23, [], .int .i64 (u0.length : Int)⟩, ⟨24, [], .int .i64 0⟩] a29 := hF31.region (by kernel_rfl) (by kernel_rfl); clear hF31
  obtain ⟨inv32, mu32, hI36, hr35⟩ := hp20
  refine lp (ι := Int × Int) (fun (s : Int × Int) => [⟨0, [], .slice ao1 u0.length cap2⟩, ⟨1, [], .int .i64 u1⟩, ⟨2, [], .int .i64 u2⟩, ⟨3, [], .int .i64 u3⟩, ⟨9, [], .int .i64 s.1⟩, ⟨22, [], .slice ao1 u0.length cap2⟩, ⟨23, [], .int .i64 (u0.length : Int)⟩, ⟨24, [], .int .i64 s.2⟩]) (fun (s : Int × Int) => []) (fun (s : Int × Int) => Z) (fun (s : Int × Int) => inv32 s.1 s.2) (fun (s : Int × Int) => mu32 s.1 s.2) ⟨0, 0⟩ hI36 (by exact hF33.region (by kernel_rfl) (by kernel_rfl)) (by exact hM0) ?_
  rintro ⟨x9, x24⟩ hI34 a38 wd39 hF40 hM41
  have hF42 : Fr 87 [] [⟨0, [], .slice ao1 u0.length cap2⟩, ⟨1, [], .int .i64 u1⟩, ⟨2, [], .int .i64 u2⟩, ⟨3, [], .int .i64 u3⟩, ⟨9, [], .int .i64 x9⟩, ⟨22, [], .slice ao1 u0.length cap2⟩, ⟨23, [], .int .i64 (u0.length : Int)⟩, ⟨24, [], .int .i64 x24⟩] a38 := hF40; clear hF40 hF33
  have hM43 : Mem w.heap.size [] w Z [] Z wd39 := hM41; clear hM41 hM0
  have hp44 := hr35 x9 x24 hI34
  refine sqH ?_; intro hQ45Q hQ45
  refine s1 hF42 25 (.bool (decide (x24 < (u0.length : Int)))) ?_; intro a46 hF47; clear hF42
  refine nlH (hQ45 _ _ ?_); clear hQ45 hQ45Q
  refine wp_seq ?_
  refine cd hF47 (t := decide (x24 < (u0.length : Int))) (by kernel_rfl) (fun hb48 => ?_) (fun hb48 => ?_)
  · -- yes
   have hp49 := hp44.1 hb48; clear hp44
   refine wp_skip ?_
   refine thn ?_
   refine wp_seq ?_
   refine wp_block ?_
   refine sqH ?_; intro hQ50Q hQ50
   have hc51 := hp49.1; have hp52 := hp49.2; clear hp49
   refine ix hF47 (T := tyFilter) (xs := u0) hs3 x24 hc51 (k := .i64) (e := 28) (bytes := 24) (nog rfl _) rfl (by kernel_rfl) rfl (by kernel_rfl) (by kernel_rfl) (by kernel_rfl) ?_; intro b53 off54 cs55 q56 a60 hq57 hP58 hT59 hF61; clear hF47
   have hp62 := hp52 q56 hq57; clear hp52
   obtain rfl : cs55 = ([.int .i64 q56.Want, .int .i64 q56.Mask, .bool q56.Long] : List Value) := hT59
   refine z2 hF61 hM43 27 hP58 0 3 [.int .i64 q56.Want, .int .i64 q56.Mask, .bool q56.Long] rfl ?_; intro a63 hF64; clear hF61
   refine sn hF64 hM43 (fun b => .pointer (some ⟨b, 0, none⟩)) [.int .i64 0, .int .i64 0, .bool false] 28 (nog rfl _) rfl (by kernel_rfl) (by kernel_rfl) ?_; intro b65 a66 wd68 hF67 hM69; clear hF64 hM43
   refine sr hF67 hM69 0 [.int .i64 q56.Want, .int .i64 q56.Mask, .bool q56.Long] (b := b65) (off := 0) (cs := [.int .i64 0, .int .i64 0, .bool false]) (ty := 28) (u := .agg #[.int .i64 q56.Want, .int .i64 q56.Mask, .bool q56.Long]) (nog rfl _) rfl rfl (by kernel_rfl) (by kernel_rfl) (by kernel_rfl) (by kernel_rfl) (by kernel_rfl) (by kernel_rfl) (by kernel_rfl) ?_; intro wd70 hM71; clear hM69
   have hM72 : Mem w.heap.size [] w Z [.row b65 [.int .i64 q56.Want, .int .i64 q56.Mask, .bool q56.Long] 28] Z wd70 := hM71; clear hM71
   refine nlH (hQ50 _ _ ?_); clear hQ50 hQ50Q
   refine wp_seq ?_
   refine sqH ?_; intro hQ73Q hQ73
   refine s1 hF67 28 (.pointer (some ⟨b65, 1, none⟩)) ?_; intro a74 hF75; clear hF67
   refine l1 hF75 hM72 29 0 1 (.int .i64 q56.Mask) rfl rfl ?_; intro a76 hF77; clear hF75
   refine s1 hF77 30 (.int .i64 u2) ?_; intro a78 hF79; clear hF77
   refine s1 hF79 31 (.int .i64 (bAndNot .i64 q56.Mask u2)) ?_; intro a80 hF81; clear hF79
   refine s1 hF81 32 (.bool ((bAndNot .i64 q56.Mask u2) == 0)) ?_; intro a82 hF83; clear hF81
   refine nlH (hQ73 _ _ ?_); clear hQ73 hQ73Q
   refine cd hF83 (t := (bAndNot .i64 q56.Mask u2) == 0) (by kernel_rfl) (fun hb84 => ?_) (fun hb84 => ?_)
   · -- yes
    have hp85 := hp62.1 hb84; clear hp62
    refine sqH ?_; intro hQ86Q hQ86
    refine s1 hF83 33 (.int .i64 u1) ?_; intro a87 hF88; clear hF83
    refine s1 hF88 34 (.int .i64 u2) ?_; intro a89 hF90; clear hF88
    refine s1 hF90 35 (.int .i64 (bAndNot .i64 u1 u2)) ?_; intro a91 hF92; clear hF90
    refine cl hF92 63 #[.int .i64 (bAndNot .i64 u1 u2)] (nog rfl _) rfl (by kernel_rfl) (by kernel_rfl) ?_
    refine (ffree_walk (bAndNot .i64 u1 u2) _ _ hM72.fz hp85).mono ?_; rintro _ wd94 ⟨r93, rfl, hp98, hb⟩; refine ⟨_, rfl, ?_⟩; intro a95 hF96; have hM97 := hM72.call hb; clear hb hM72 hF92
    refine s1 hF96 8 (.int .i64 r93) ?_; intro a99 hF100; clear hF96
    refine nlH (hQ86 _ _ ?_); clear hQ86 hQ86Q
    refine wp_ret ?_
    refine thr ?_
    refine ibr ?_
    refine thr ?_
    refine thr ?_
    refine ibr ?_
    refine thr ?_
    refine rt (fn := Try.f49) (v := .int .i64 r93) hF100 (re1 hF100 (fn := Try.f49) rfl (by kernel_rfl)) ?_
    exact ⟨r93, rfl, hp98, hM97.below⟩
   · -- no
    have hp101 := hp62.2 hb84; clear hp62
    refine wp_skip ?_
    refine thn ?_
    refine rgH ?_; intro hQ102Q hQ102
    refine s1 hF83 37 (.int .i64 x9) ?_; intro a103 hF104; clear hF83
    refine s1 hF104 38 (.pointer (some ⟨b65, 1, none⟩)) ?_; intro a105 hF106; clear hF104
    refine l1 hF106 hM72 39 0 1 (.int .i64 q56.Mask) rfl rfl ?_; intro a107 hF108; clear hF106
    refine s1 hF108 40 (.int .i64 u2) ?_; intro a109 hF110; clear hF108
    refine s1 hF110 41 (.int .i64 (bAndNot .i64 q56.Mask u2)) ?_; intro a111 hF112; clear hF110
    refine s1 hF112 42 (.int .i64 (bOr .i64 x9 (bAndNot .i64 q56.Mask u2))) ?_; intro a113 hF114; clear hF112
    refine s1 hF114 9 (.int .i64 (bOr .i64 x9 (bAndNot .i64 q56.Mask u2))) ?_; intro a115 hF116; clear hF114
    refine nlH (hQ102 _ _ ?_); clear hQ102 hQ102Q
    refine ibn ?_
    refine thn ?_
    have hF117 : Fr 87 [] [⟨0, [], .slice ao1 u0.length cap2⟩, ⟨1, [], .int .i64 u1⟩, ⟨2, [], .int .i64 u2⟩, ⟨3, [], .int .i64 u3⟩, ⟨9, [], .int .i64 (bOr .i64 x9 (bAndNot .i64 q56.Mask u2))⟩, ⟨22, [], .slice ao1 u0.length cap2⟩, ⟨23, [], .int .i64 (u0.length : Int)⟩, ⟨24, [], .int .i64 x24⟩] a115 := hF116.region (by kernel_rfl) (by kernel_rfl); clear hF116
    refine rgH ?_; intro hQ118Q hQ118
    refine s1 hF117 43 (.int .i64 (w64 (x24 + 1))) ?_; intro a119 hF120; clear hF117
    refine s1 hF120 24 (.int .i64 (w64 (x24 + 1))) ?_; intro a121 hF122; clear hF120
    refine nlH (hQ118 _ _ ?_); clear hQ118 hQ118Q
    refine rd ?_
    exact ⟨⟨bOr .i64 x9 (bAndNot .i64 q56.Mask u2), w64 (x24 + 1)⟩, hp101.1, hp101.2, (hF122.region (by kernel_rfl) (by kernel_rfl)).anyβ _ (by kernel_rfl), hM72.keep (List.Sublist.cons _ (List.Sublist.slnil))⟩
  · -- no
   have hp123 := hp44.2 hb48; clear hp44
   refine wp_exit ?_
   refine thx ?_
   refine thx ?_
   refine ibx ?_
   refine thn ?_
   refine sqH ?_; intro hQ124Q hQ124
   refine s1 hF47 44 (.int .i64 x9) ?_; intro a125 hF126; clear hF47
   refine s1 hF126 45 (.int .i64 x9) ?_; intro a127 hF128; clear hF126
   refine s1 hF128 46 (.int .i64 (w64 (0 - x9))) ?_; intro a129 hF130; clear hF128
   refine s1 hF130 47 (.int .i64 (bAnd .i64 x9 (w64 (0 - x9)))) ?_; intro a131 hF132; clear hF130
   refine s1 hF132 12 (.int .i64 (bAnd .i64 x9 (w64 (0 - x9)))) ?_; intro a133 hF134; clear hF132
   refine nlH (hQ124 _ _ ?_); clear hQ124 hQ124Q
   refine sqH ?_; intro hQ135Q hQ135
   refine s1 hF134 13 (.int .i64 0) ?_; intro a136 hF137; clear hF134
   refine nlH (hQ135 _ _ ?_); clear hQ135 hQ135Q
   refine wp_seq ?_
   refine sqH ?_; intro hQ138Q hQ138
   refine s1 hF137 48 (.int .i64 (bAnd .i64 x9 (w64 (0 - x9)))) ?_; intro a139 hF140; clear hF137
   refine s1 hF140 49 (.agg #[.int .i64 0, .int .i64 (bAnd .i64 x9 (w64 (0 - x9)))]) ?_; intro a141 hF142; clear hF140
   refine s1 hF142 50 (.int .i64 0) ?_; intro a143 hF144; clear hF142
   refine nlH (hQ138 _ _ ?_); clear hQ138 hQ138Q
   refine wp_block ?_
   have hF145 : Fr 87 [] [⟨0, [], .slice ao1 u0.length cap2⟩, ⟨1, [], .int .i64 u1⟩, ⟨2, [], .int .i64 u2⟩, ⟨3, [], .int .i64 u3⟩, ⟨12, [], .int .i64 (bAnd .i64 x9 (w64 (0 - x9)))⟩, ⟨13, [], .int .i64 0⟩, ⟨49, [], .agg #[.int .i64 0, .int .i64 (bAnd .i64 x9 (w64 (0 - x9)))]⟩, ⟨50, [], .int .i64 0⟩] a143 := hF144.region (by kernel_rfl) (by kernel_rfl); clear hF144
   have hF147 : Fr 87 [] [⟨0, [], .slice ao1 u0.length cap2⟩, ⟨1, [], .int .i64 u1⟩, ⟨2, [], .int .i64 u2⟩, ⟨3, [], .int .i64 u3⟩, ⟨12, [], .int .i64 (bAnd .i64 x9 (w64 (0 - x9)))⟩, ⟨13, [], .int .i64 0⟩, ⟨49, [], .agg #[.int .i64 0, .int .i64 (bAnd .i64 x9 (w64 (0 - x9)))]⟩, ⟨50, [], .int .i64 0⟩] a143 := hF145.region (by kernel_rfl) (by kernel_rfl); clear hF145
   obtain ⟨inv146, mu146, hI150, hr149⟩ := hp123
   have hle151 := hle0
   refine lp (ι := Int × Int × Fz) (fun (s : Int × Int × Fz) => [⟨0, [], .slice ao1 u0.length cap2⟩, ⟨1, [], .int .i64 u1⟩, ⟨2, [], .int .i64 u2⟩, ⟨3, [], .int .i64 u3⟩, ⟨12, [], .int .i64 (bAnd .i64 x9 (w64 (0 - x9)))⟩, ⟨13, [], .int .i64 s.1⟩, ⟨49, [], .agg #[.int .i64 0, .int .i64 (bAnd .i64 x9 (w64 (0 - x9)))]⟩, ⟨50, [], .int .i64 s.2.1⟩]) (fun (s : Int × Int × Fz) => []) (fun (s : Int × Int × Fz) => s.2.2) (fun (s : Int × Int × Fz) => inv146 s.1 s.2.1 ∧ Fz.le Z s.2.2) (fun (s : Int × Int × Fz) => mu146 s.1 s.2.1) ⟨0, 0, Z⟩ ⟨hI150, Fz.le.refl _⟩ (by exact hF147.region (by kernel_rfl) (by kernel_rfl)) (by exact hM43) ?_
   rintro ⟨x13, x50, ZL146⟩ ⟨hI148, hleL146⟩ a152 wd153 hF154 hM155
   have hF156 : Fr 87 [] [⟨0, [], .slice ao1 u0.length cap2⟩, ⟨1, [], .int .i64 u1⟩, ⟨2, [], .int .i64 u2⟩, ⟨3, [], .int .i64 u3⟩, ⟨12, [], .int .i64 (bAnd .i64 x9 (w64 (0 - x9)))⟩, ⟨13, [], .int .i64 x13⟩, ⟨49, [], .agg #[.int .i64 0, .int .i64 (bAnd .i64 x9 (w64 (0 - x9)))]⟩, ⟨50, [], .int .i64 x50⟩] a152 := hF154; clear hF154 hF147
   have hM157 : Mem w.heap.size [] w Z [] ZL146 wd153 := hM155; clear hM155 hM43
   have hp158 := hr149 x13 x50 hI148
   replace hle0 := Fz.le.trans hle0 hleL146
   have hs159 := hs3.mono hleL146
   refine sqH ?_; intro hQ160Q hQ160
   refine s1 hF156 51 (.bool (decide (x50 < 2))) ?_; intro a161 hF162; clear hF156
   refine nlH (hQ160 _ _ ?_); clear hQ160 hQ160Q
   refine wp_seq ?_
   refine cd hF162 (t := decide (x50 < 2)) (by kernel_rfl) (fun hb163 => ?_) (fun hb163 => ?_)
   · -- yes
    have hp164 := hp158.1 hb163; clear hp158
    refine wp_skip ?_
    refine thn ?_
    refine wp_seq ?_
    refine wp_block ?_
    refine sqH ?_; intro hQ165Q hQ165
    have hc166 := hp164.1; have hp167 := hp164.2; clear hp164
    have hix : ∀ x : Int, 0 ≤ x ∧ x < 2 → x = 0 ∨ x = 1 := by intro x hx; omega
    refine st hF162 (.int .i64 (([0, bAnd .i64 x9 (w64 (0 - x9))] : List Int).getD x50.toNat 0)) (nog rfl _) rfl (by kernel_rfl) ((by generalize x50 = ix at *; rcases hix _ hc166 with rfl | rfl <;> exact p0 hF162 (by kernel_rfl))) ?_; intro a168 hF169; clear hF162
    refine s1 hF169 15 (.int .i64 (([0, bAnd .i64 x9 (w64 (0 - x9))] : List Int).getD x50.toNat 0)) ?_; intro a170 hF171; clear hF169
    refine nlH (hQ165 _ _ ?_); clear hQ165 hQ165Q
    refine sqH ?_; intro hQ172Q hQ172
    refine s1 hF171 16 (.slice none 0 0) ?_; intro a173 hF174; clear hF171
    refine nlH (hQ172 _ _ ?_); clear hQ172 hQ172Q
    refine wp_seq ?_
    refine sqH ?_; intro hQ175Q hQ175
    refine s1 hF174 53 (.slice ao1 u0.length cap2) ?_; intro a176 hF177; clear hF174
    refine s1 hF177 54 (.int .i64 (u0.length : Int)) ?_; intro a178 hF179; clear hF177
    refine s1 hF179 55 (.int .i64 0) ?_; intro a180 hF181; clear hF179
    refine nlH (hQ175 _ _ ?_); clear hQ175 hQ175Q
    refine wp_block ?_
    have hF182 : Fr 87 [] [⟨0, [], .slice ao1 u0.length cap2⟩, ⟨1, [], .int .i64 u1⟩, ⟨2, [], .int .i64 u2⟩, ⟨3, [], .int .i64 u3⟩, ⟨12, [], .int .i64 (bAnd .i64 x9 (w64 (0 - x9)))⟩, ⟨13, [], .int .i64 x13⟩, ⟨15, [], .int .i64 (([0, bAnd .i64 x9 (w64 (0 - x9))] : List Int).getD x50.toNat 0)⟩, ⟨16, [], .slice none 0 0⟩, ⟨49, [], .agg #[.int .i64 0, .int .i64 (bAnd .i64 x9 (w64 (0 - x9)))]⟩, ⟨50, [], .int .i64 x50⟩, ⟨53, [], .slice ao1 u0.length cap2⟩, ⟨54, [], .int .i64 (u0.length : Int)⟩, ⟨55, [], .int .i64 0⟩] a180 := hF181.region (by kernel_rfl) (by kernel_rfl); clear hF181
    have hM184 : Mem w.heap.size [] w Z [.own tyFilter 28 none 0 ([] : List Filter)] ZL146 wd153 := hM157.addNil tyFilter 28 (by decide); clear hM157
    have hF185 : Fr 87 [] [⟨0, [], .slice ao1 u0.length cap2⟩, ⟨1, [], .int .i64 u1⟩, ⟨2, [], .int .i64 u2⟩, ⟨3, [], .int .i64 u3⟩, ⟨12, [], .int .i64 (bAnd .i64 x9 (w64 (0 - x9)))⟩, ⟨13, [], .int .i64 x13⟩, ⟨15, [], .int .i64 (([0, bAnd .i64 x9 (w64 (0 - x9))] : List Int).getD x50.toNat 0)⟩, ⟨16, [], .slice none ([] : List Filter).length 0⟩, ⟨49, [], .agg #[.int .i64 0, .int .i64 (bAnd .i64 x9 (w64 (0 - x9)))]⟩, ⟨50, [], .int .i64 x50⟩, ⟨53, [], .slice ao1 u0.length cap2⟩, ⟨54, [], .int .i64 (u0.length : Int)⟩, ⟨55, [], .int .i64 0⟩] a180 := hF182.region (by kernel_rfl) (by kernel_rfl); clear hF182
    obtain ⟨inv183, mu183, hI188, hr187⟩ := hp167
    refine lp (ι := (List Filter) × Int × (Option Addr) × Nat) (fun (s : (List Filter) × Int × (Option Addr) × Nat) => [⟨0, [], .slice ao1 u0.length cap2⟩, ⟨1, [], .int .i64 u1⟩, ⟨2, [], .int .i64 u2⟩, ⟨3, [], .int .i64 u3⟩, ⟨12, [], .int .i64 (bAnd .i64 x9 (w64 (0 - x9)))⟩, ⟨13, [], .int .i64 x13⟩, ⟨15, [], .int .i64 (([0, bAnd .i64 x9 (w64 (0 - x9))] : List Int).getD x50.toNat 0)⟩, ⟨16, [], .slice s.2.2.1 s.1.length s.2.2.2⟩, ⟨49, [], .agg #[.int .i64 0, .int .i64 (bAnd .i64 x9 (w64 (0 - x9)))]⟩, ⟨50, [], .int .i64 x50⟩, ⟨53, [], .slice ao1 u0.length cap2⟩, ⟨54, [], .int .i64 (u0.length : Int)⟩, ⟨55, [], .int .i64 s.2.1⟩]) (fun (s : (List Filter) × Int × (Option Addr) × Nat) => [.own tyFilter 28 s.2.2.1 s.2.2.2 s.1]) (fun (s : (List Filter) × Int × (Option Addr) × Nat) => ZL146) (fun (s : (List Filter) × Int × (Option Addr) × Nat) => inv183 s.1 s.2.1) (fun (s : (List Filter) × Int × (Option Addr) × Nat) => mu183 s.1 s.2.1) ⟨([] : List Filter), 0, none, 0⟩ hI188 (by exact hF185.region (by kernel_rfl) (by kernel_rfl)) (by exact hM184) ?_
    rintro ⟨x16, x55, aox16, capx16⟩ hI186 a190 wd191 hF192 hM193
    have hF194 : Fr 87 [] [⟨0, [], .slice ao1 u0.length cap2⟩, ⟨1, [], .int .i64 u1⟩, ⟨2, [], .int .i64 u2⟩, ⟨3, [], .int .i64 u3⟩, ⟨12, [], .int .i64 (bAnd .i64 x9 (w64 (0 - x9)))⟩, ⟨13, [], .int .i64 x13⟩, ⟨15, [], .int .i64 (([0, bAnd .i64 x9 (w64 (0 - x9))] : List Int).getD x50.toNat 0)⟩, ⟨16, [], .slice aox16 x16.length capx16⟩, ⟨49, [], .agg #[.int .i64 0, .int .i64 (bAnd .i64 x9 (w64 (0 - x9)))]⟩, ⟨50, [], .int .i64 x50⟩, ⟨53, [], .slice ao1 u0.length cap2⟩, ⟨54, [], .int .i64 (u0.length : Int)⟩, ⟨55, [], .int .i64 x55⟩] a190 := hF192; clear hF192 hF185
    have hM195 : Mem w.heap.size [] w Z [.own tyFilter 28 aox16 capx16 x16] ZL146 wd191 := hM193; clear hM193 hM184
    have hp196 := hr187 x16 x55 hI186
    refine sqH ?_; intro hQ197Q hQ197
    refine s1 hF194 56 (.bool (decide (x55 < (u0.length : Int)))) ?_; intro a198 hF199; clear hF194
    refine nlH (hQ197 _ _ ?_); clear hQ197 hQ197Q
    refine wp_seq ?_
    refine cd hF199 (t := decide (x55 < (u0.length : Int))) (by kernel_rfl) (fun hb200 => ?_) (fun hb200 => ?_)
    · -- yes
     have hp201 := hp196.1 hb200; clear hp196
     refine wp_skip ?_
     refine thn ?_
     refine wp_seq ?_
     refine wp_block ?_
     refine sqH ?_; intro hQ202Q hQ202
     have hc203 := hp201.1; have hp204 := hp201.2; clear hp201
     refine ix hF199 (T := tyFilter) (xs := u0) hs159 x55 hc203 (k := .i64) (e := 28) (bytes := 24) (nog rfl _) rfl (by kernel_rfl) rfl (by kernel_rfl) (by kernel_rfl) (by kernel_rfl) ?_; intro b205 off206 cs207 q208 a212 hq209 hP210 hT211 hF213; clear hF199
     have hp214 := hp204 q208 hq209; clear hp204
     obtain rfl : cs207 = ([.int .i64 q208.Want, .int .i64 q208.Mask, .bool q208.Long] : List Value) := hT211
     refine z2 hF213 hM195 58 hP210 0 3 [.int .i64 q208.Want, .int .i64 q208.Mask, .bool q208.Long] rfl ?_; intro a215 hF216; clear hF213
     refine sn hF216 hM195 (fun b => .pointer (some ⟨b, 0, none⟩)) [.int .i64 0, .int .i64 0, .bool false] 28 (nog rfl _) rfl (by kernel_rfl) (by kernel_rfl) ?_; intro b217 a218 wd220 hF219 hM221; clear hF216 hM195
     refine sr hF219 hM221 0 [.int .i64 q208.Want, .int .i64 q208.Mask, .bool q208.Long] (b := b217) (off := 0) (cs := [.int .i64 0, .int .i64 0, .bool false]) (ty := 28) (u := .agg #[.int .i64 q208.Want, .int .i64 q208.Mask, .bool q208.Long]) (nog rfl _) rfl rfl (by kernel_rfl) (by kernel_rfl) (by kernel_rfl) (by kernel_rfl) (by kernel_rfl) (by kernel_rfl) (by kernel_rfl) ?_; intro wd222 hM223; clear hM221
     have hM224 : Mem w.heap.size [] w Z [.row b217 [.int .i64 q208.Want, .int .i64 q208.Mask, .bool q208.Long] 28, .own tyFilter 28 aox16 capx16 x16] ZL146 wd222 := hM223; clear hM223
     refine nlH (hQ202 _ _ ?_); clear hQ202 hQ202Q
     refine sqH ?_; intro hQ225Q hQ225
     refine s1 hF219 59 (.pointer (some ⟨b217, 0, none⟩)) ?_; intro a226 hF227; clear hF219
     refine l1 hF227 hM224 60 0 0 (.int .i64 q208.Want) rfl rfl ?_; intro a228 hF229; clear hF227
     refine s1 hF229 61 (.int .i64 (([0, bAnd .i64 x9 (w64 (0 - x9))] : List Int).getD x50.toNat 0)) ?_; intro a230 hF231; clear hF229
     refine s1 hF231 62 (.int .i64 (bXor .i64 q208.Want (([0, bAnd .i64 x9 (w64 (0 - x9))] : List Int).getD x50.toNat 0))) ?_; intro a232 hF233; clear hF231
     refine s1 hF233 63 (.int .i64 (bAnd .i64 x9 (w64 (0 - x9)))) ?_; intro a234 hF235; clear hF233
     refine s1 hF235 64 (.int .i64 (bAnd .i64 (bXor .i64 q208.Want (([0, bAnd .i64 x9 (w64 (0 - x9))] : List Int).getD x50.toNat 0)) (bAnd .i64 x9 (w64 (0 - x9))))) ?_; intro a236 hF237; clear hF235
     refine s1 hF237 65 (.pointer (some ⟨b217, 1, none⟩)) ?_; intro a238 hF239; clear hF237
     refine l1 hF239 hM224 66 0 1 (.int .i64 q208.Mask) rfl rfl ?_; intro a240 hF241; clear hF239
     refine s1 hF241 67 (.int .i64 (bAnd .i64 (bAnd .i64 (bXor .i64 q208.Want (([0, bAnd .i64 x9 (w64 (0 - x9))] : List Int).getD x50.toNat 0)) (bAnd .i64 x9 (w64 (0 - x9)))) q208.Mask)) ?_; intro a242 hF243; clear hF241
     refine s1 hF243 68 (.bool ((bAnd .i64 (bAnd .i64 (bXor .i64 q208.Want (([0, bAnd .i64 x9 (w64 (0 - x9))] : List Int).getD x50.toNat 0)) (bAnd .i64 x9 (w64 (0 - x9)))) q208.Mask) == 0)) ?_; intro a244 hF245; clear hF243
     refine nlH (hQ225 _ _ ?_); clear hQ225 hQ225Q
     refine cd hF245 (t := (bAnd .i64 (bAnd .i64 (bXor .i64 q208.Want (([0, bAnd .i64 x9 (w64 (0 - x9))] : List Int).getD x50.toNat 0)) (bAnd .i64 x9 (w64 (0 - x9)))) q208.Mask) == 0) (by kernel_rfl) (fun hb246 => ?_) (fun hb246 => ?_)
     · -- yes
      have hp247 := hp214.1 hb246; clear hp214
      have hF248 : Fr 87 [] [⟨0, [], .slice ao1 u0.length cap2⟩, ⟨1, [], .int .i64 u1⟩, ⟨2, [], .int .i64 u2⟩, ⟨3, [], .int .i64 u3⟩, ⟨12, [], .int .i64 (bAnd .i64 x9 (w64 (0 - x9)))⟩, ⟨13, [], .int .i64 x13⟩, ⟨15, [], .int .i64 (([0, bAnd .i64 x9 (w64 (0 - x9))] : List Int).getD x50.toNat 0)⟩, ⟨16, [], .slice aox16 x16.length capx16⟩, ⟨18, [], .pointer (some ⟨b217, 0, none⟩)⟩, ⟨49, [], .agg #[.int .i64 0, .int .i64 (bAnd .i64 x9 (w64 (0 - x9)))]⟩, ⟨50, [], .int .i64 x50⟩, ⟨53, [], .slice ao1 u0.length cap2⟩, ⟨54, [], .int .i64 (u0.length : Int)⟩, ⟨55, [], .int .i64 x55⟩] a244 := hF245.region (by kernel_rfl) (by kernel_rfl); clear hF245
      refine rgH ?_; intro hQ249Q hQ249
      refine s1 hF248 69 (.slice aox16 x16.length capx16) ?_; intro a250 hF251; clear hF248
      refine l2 hF251 hM224 70 0 0 3 [.int .i64 q208.Want, .int .i64 q208.Mask, .bool q208.Long] rfl rfl ?_; intro a252 hF253; clear hF251
      refine sn hF253 hM224 (fun b => .slice (some ⟨b, 0, none⟩) 1 1) [.int .i64 q208.Want, .int .i64 q208.Mask, .bool q208.Long] 28 (nog rfl _) rfl (by kernel_rfl) (by kernel_rfl) ?_; intro b254 a255 wd257 hF256 hM258; clear hF253 hM224
      have hc259 := hp247.1; have hp260 := hp247.2; clear hp247
      refine ap hF256 hM258 2 (T := tyFilter) (xs := x16) (ys := [q208]) (ao := aox16) (cap := capx16) (ao2 := (some ⟨b254, 0, none⟩)) (cap2 := 1) (t := 22) (e := 28) (bytes := 24) (nog rfl _) rfl (by kernel_rfl) rfl (by kernel_rfl) (by kernel_rfl) (by kernel_rfl) rfl (Src.row hM258 0 rfl (RepAll.one (T := tyFilter) (x := q208) rfl)) hc259 ?_; intro ao261 cap262 a266 wd263 hnil264 hF267 hM265; clear hF256 hM258
      have hM268 : Mem w.heap.size [] w Z [.row b254 [.int .i64 q208.Want, .int .i64 q208.Mask, .bool q208.Long] 28, .row b217 [.int .i64 q208.Want, .int .i64 q208.Mask, .bool q208.Long] 28, .own tyFilter 28 ao261 cap262 (x16 ++ [q208])] ZL146 wd263 := hM265; clear hM265
      refine s1 hF267 16 (.slice ao261 (x16 ++ [q208]).length cap262) ?_; intro a269 hF270; clear hF267
      refine nlH (hQ249 _ _ ?_); clear hQ249 hQ249Q
      refine ibn ?_
      refine thn ?_
      refine rgH ?_; intro hQ271Q hQ271
      refine s1 hF270 73 (.int .i64 (w64 (x55 + 1))) ?_; intro a272 hF273; clear hF270
      refine s1 hF273 55 (.int .i64 (w64 (x55 + 1))) ?_; intro a274 hF275; clear hF273
      refine nlH (hQ271 _ _ ?_); clear hQ271 hQ271Q
      refine rd ?_
      exact ⟨⟨x16 ++ [q208], w64 (x55 + 1), ao261, cap262⟩, hp260.1, hp260.2, (hF275.region (by kernel_rfl) (by kernel_rfl)).anyβ _ (by kernel_rfl), hM268.keep (List.Sublist.cons _ (List.Sublist.cons _ (List.Sublist.cons_cons _ (List.Sublist.slnil))))⟩
     · -- no
      have hp276 := hp214.2 hb246; clear hp214
      refine wp_skip ?_
      refine ibn ?_
      refine thn ?_
      have hF277 : Fr 87 [] [⟨0, [], .slice ao1 u0.length cap2⟩, ⟨1, [], .int .i64 u1⟩, ⟨2, [], .int .i64 u2⟩, ⟨3, [], .int .i64 u3⟩, ⟨12, [], .int .i64 (bAnd .i64 x9 (w64 (0 - x9)))⟩, ⟨13, [], .int .i64 x13⟩, ⟨15, [], .int .i64 (([0, bAnd .i64 x9 (w64 (0 - x9))] : List Int).getD x50.toNat 0)⟩, ⟨16, [], .slice aox16 x16.length capx16⟩, ⟨49, [], .agg #[.int .i64 0, .int .i64 (bAnd .i64 x9 (w64 (0 - x9)))]⟩, ⟨50, [], .int .i64 x50⟩, ⟨53, [], .slice ao1 u0.length cap2⟩, ⟨54, [], .int .i64 (u0.length : Int)⟩, ⟨55, [], .int .i64 x55⟩] a244 := hF245.region (by kernel_rfl) (by kernel_rfl); clear hF245
      refine rgH ?_; intro hQ278Q hQ278
      refine s1 hF277 73 (.int .i64 (w64 (x55 + 1))) ?_; intro a279 hF280; clear hF277
      refine s1 hF280 55 (.int .i64 (w64 (x55 + 1))) ?_; intro a281 hF282; clear hF280
      refine nlH (hQ278 _ _ ?_); clear hQ278 hQ278Q
      refine rd ?_
      exact ⟨⟨x16, w64 (x55 + 1), aox16, capx16⟩, hp276.1, hp276.2, (hF282.region (by kernel_rfl) (by kernel_rfl)).anyβ _ (by kernel_rfl), hM224.keep (List.Sublist.cons _ (List.Sublist.cons_cons _ (List.Sublist.slnil)))⟩
    · -- no
     have hp283 := hp196.2 hb200; clear hp196
     refine wp_exit ?_
     refine thx ?_
     refine thx ?_
     refine ibx ?_
     refine thn ?_
     refine rgH ?_; intro hQ284Q hQ284
     refine s1 hF199 74 (.int .i64 x13) ?_; intro a285 hF286; clear hF199
     refine s1 hF286 75 (.slice aox16 x16.length capx16) ?_; intro a287 hF288; clear hF286
     refine s1 hF288 76 (.int .i64 u1) ?_; intro a289 hF290; clear hF288
     refine s1 hF290 77 (.int .i64 u2) ?_; intro a291 hF292; clear hF290
     refine s1 hF292 78 (.int .i64 (bAnd .i64 x9 (w64 (0 - x9)))) ?_; intro a293 hF294; clear hF292
     refine s1 hF294 79 (.int .i64 (bOr .i64 u2 (bAnd .i64 x9 (w64 (0 - x9))))) ?_; intro a295 hF296; clear hF294
     refine s1 hF296 80 (.int .i64 u3) ?_; intro a297 hF298; clear hF296
     refine s1 hF298 81 (.int .i64 (([0, bAnd .i64 x9 (w64 (0 - x9))] : List Int).getD x50.toNat 0)) ?_; intro a299 hF300; clear hF298
     refine s1 hF300 82 (.int .i64 (bOr .i64 u3 (([0, bAnd .i64 x9 (w64 (0 - x9))] : List Int).getD x50.toNat 0))) ?_; intro a301 hF302; clear hF300
     obtain ⟨Z303, hle304, hM305, hs306⟩ := hM195.freeze 0 rfl
     replace hs159 := hs159.mono hle304
     replace hleL146 := hleL146.mono hle304
     replace hle0 := Fz.le.trans hle0 hle304
     have hM307 : Mem w.heap.size [] w Z [] Z303 wd191 := hM305; clear hM305
     have hc308 := hp283.1; have hp309 := hp283.2; clear hp283
     refine fcl hF302 hM307 (.int .i64 (countS x16 u1 (bOr .i64 u2 (bAnd .i64 x9 (w64 (0 - x9)))) (bOr .i64 u3 (([0, bAnd .i64 x9 (w64 (0 - x9))] : List Int).getD x50.toNat 0)))) 49 #[.slice aox16 x16.length capx16, .int .i64 u1, .int .i64 (bOr .i64 u2 (bAnd .i64 x9 (w64 (0 - x9)))), .int .i64 (bOr .i64 u3 (([0, bAnd .i64 x9 (w64 (0 - x9))] : List Int).getD x50.toNat 0))] (nog rfl _) rfl (by kernel_rfl) (fun _ => by kernel_rfl) (ih x16 u1 (bOr .i64 u2 (bAnd .i64 x9 (w64 (0 - x9)))) (bOr .i64 u3 (([0, bAnd .i64 x9 (w64 (0 - x9))] : List Int).getD x50.toNat 0)) hc308 aox16 capx16 _ _ hs306 hM307.fz) ?_; intro a310 wd312 hF311 hM313; clear hF302 hM307
     refine s1 hF311 84 (.int .i64 (w64 (x13 + (countS x16 u1 (bOr .i64 u2 (bAnd .i64 x9 (w64 (0 - x9)))) (bOr .i64 u3 (([0, bAnd .i64 x9 (w64 (0 - x9))] : List Int).getD x50.toNat 0)))))) ?_; intro a314 hF315; clear hF311
     refine s1 hF315 13 (.int .i64 (w64 (x13 + (countS x16 u1 (bOr .i64 u2 (bAnd .i64 x9 (w64 (0 - x9)))) (bOr .i64 u3 (([0, bAnd .i64 x9 (w64 (0 - x9))] : List Int).getD x50.toNat 0)))))) ?_; intro a316 hF317; clear hF315
     refine nlH (hQ284 _ _ ?_); clear hQ284 hQ284Q
     refine ibn ?_
     refine thn ?_
     refine rgH ?_; intro hQ318Q hQ318
     refine s1 hF317 85 (.int .i64 (w64 (x50 + 1))) ?_; intro a319 hF320; clear hF317
     refine s1 hF320 50 (.int .i64 (w64 (x50 + 1))) ?_; intro a321 hF322; clear hF320
     refine nlH (hQ318 _ _ ?_); clear hQ318 hQ318Q
     refine rd ?_
     exact ⟨⟨w64 (x13 + (countS x16 u1 (bOr .i64 u2 (bAnd .i64 x9 (w64 (0 - x9)))) (bOr .i64 u3 (([0, bAnd .i64 x9 (w64 (0 - x9))] : List Int).getD x50.toNat 0)))), w64 (x50 + 1), Z303⟩, ⟨hp309.1, hleL146⟩, hp309.2, (hF322.region (by kernel_rfl) (by kernel_rfl)).anyβ _ (by kernel_rfl), hM313.keep (List.Sublist.slnil)⟩
   · -- no
    have hp323 := hp158.2 hb163; clear hp158
    refine wp_exit ?_
    refine thx ?_
    refine thx ?_
    refine ibx ?_
    refine thn ?_
    refine sqH ?_; intro hQ324Q hQ324
    refine s1 hF162 86 (.int .i64 x13) ?_; intro a325 hF326; clear hF162
    refine s1 hF326 8 (.int .i64 x13) ?_; intro a327 hF328; clear hF326
    refine nlH (hQ324 _ _ ?_); clear hQ324 hQ324Q
    refine wp_ret ?_
    refine rt (fn := Try.f49) (v := .int .i64 x13) hF328 (re1 hF328 (fn := Try.f49) rfl (by kernel_rfl)) ?_
    exact ⟨x13, rfl, hp323, hM157.below⟩

end Go.Proofs.Ytkogkombalcgeaa
