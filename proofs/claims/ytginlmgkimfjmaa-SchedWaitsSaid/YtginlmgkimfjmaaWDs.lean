/- The walks, made by program: each call does what its pure predicate says. -/
import Derived.Test.YtginlmgkimfjmaaPDs
import Derived.Test.YtginlmgkimfjmaaWDr
set_option linter.unusedVariables false
set_option linter.unusedSimpArgs false
namespace Go.Proofs.Ytginlmgkimfjmaa
open Go.Sy Go.RowKit
theorem splay_fun (u0 : List Task) (u1 : List Int) (u2 : List Int) (u3 : Int) (ao1 : Option Addr) (cap2 : Nat) (ao4 : Option Addr) (cap5 : Nat) (ao7 : Option Addr) (cap8 : Nat) (Z : Fz) (w : World) (hs3 : SlR tyTask Z ao1 cap2 u0) (hs6 : SlR (tyInt .i64) Z ao4 cap5 u1) (hs9 : SlR (tyInt .i64) Z ao7 cap8 u2) (hZ : Z.on w) : Calls Try.prog 18 #[.slice ao1 u0.length cap2, .slice ao4 u1.length cap5, .slice ao7 u2.length cap8, .int .i64 u3] w fun e w' => ∃ (ao1001 : Option Addr) (cap1002 : Nat) (Z' : Fz), e = .returned (.tuple #[.slice ao1001 (playS u0 u1 u2 u3).1.length cap1002, .int .i64 (playS u0 u1 u2 u3).2]) ∧ Mem w.heap.size [] w Z [.own tySlot 48 ao1001 cap1002 (playS u0 u1 u2 u3).1] Z' w' :=
  (splay_walk u0 u1 u2 u3 ao1 cap2 ao4 cap5 ao7 cap8 Z w hs3 hs6 hs9 hZ (splay_ok u0 u1 u2 u3)).mono fun _ _ ⟨r, h0, h1, h2, he, hk, hm⟩ => by subst hk; exact ⟨h0, h1, h2, he, hm⟩

set_option maxRecDepth 100000 in
set_option maxHeartbeats 0 in
theorem swaits_walk (u0 : List Task) (u1 : List Slot) (ao1 : Option Addr) (cap2 : Nat) (ao4 : Option Addr) (cap5 : Nat) (Z : Fz) (w : World) (hs3 : SlR tyTask Z ao1 cap2 u0) (hs6 : SlR tySlot Z ao4 cap5 u1) (hZ : Z.on w) {K : ((List Int) × Int) → Prop} (hp : swaits_vc u0 u1 K) : Calls Try.prog 20 #[.slice ao1 u0.length cap2, .slice ao4 u1.length cap5] w fun e w' => ∃ (r : (List Int) × Int) (ao1001 : Option Addr) (cap1002 : Nat) (Z' : Fz), e = .returned (.tuple #[.slice ao1001 r.1.length cap1002, .int .i64 r.2]) ∧ K r ∧ Mem w.heap.size [] w Z [.own (tyInt .i64) 3 ao1001 cap1002 r.1] Z' w' := by
 refine enter0 Try.func20 rfl rfl (by kernel_rfl) ?_; intro a0 hF0; have hM0 := Mem.start w Z hZ; have hle0 := Fz.le.refl Z
 have hp7 := hp (hs3.small); clear hp
 have hp8 := hp7 (hs6.small); clear hp7
 refine sqH ?_; intro hQ9Q hQ9
 refine s1 hF0 4 (.slice none 0 0) ?_; intro a10 hF11; clear hF0
 refine s1 hF11 5 (.int .i64 0) ?_; intro a12 hF13; clear hF11
 refine nlH (hQ9 _ _ ?_); clear hQ9 hQ9Q
 refine wp_seq ?_
 refine sqH ?_; intro hQ14Q hQ14
 refine s1 hF13 10 (.slice ao1 u0.length cap2) ?_; intro a15 hF16; clear hF13
 refine fcl hF16 hM0 (.int .i64 (dcheckS u0)) 47 #[.slice ao1 u0.length cap2] (nog rfl _) rfl (by kernel_rfl) (fun _ => by kernel_rfl) (dcheck_fun u0 ao1 cap2 _ _ hs3 hM0.fz) ?_; intro a17 wd19 hF18 hM20; clear hF16 hM0
 refine s1 hF18 6 (.int .i64 (dcheckS u0)) ?_; intro a21 hF22; clear hF18
 refine nlH (hQ14 _ _ ?_); clear hQ14 hQ14Q
 refine sqH ?_; intro hQ23Q hQ23
 refine s1 hF22 12 (.int .i64 (dcheckS u0)) ?_; intro a24 hF25; clear hF22
 refine s1 hF25 13 (.bool ((dcheckS u0) != 0)) ?_; intro a26 hF27; clear hF25
 refine nlH (hQ23 _ _ ?_); clear hQ23 hQ23Q
 refine cd hF27 (t := (dcheckS u0) != 0) (by kernel_rfl) (fun hb28 => ?_) (fun hb28 => ?_)
 ·
  have hp29 := hp8.1 hb28; clear hp8
  refine sqH ?_; intro hQ30Q hQ30
  refine s1 hF27 14 (.int .i64 (dcheckS u0)) ?_; intro a31 hF32; clear hF27
  refine s1 hF32 4 (.slice none 0 0) ?_; intro a33 hF34; clear hF32
  refine s1 hF34 5 (.int .i64 (dcheckS u0)) ?_; intro a35 hF36; clear hF34
  refine nlH (hQ30 _ _ ?_); clear hQ30 hQ30Q
  refine wp_ret ?_
  refine thr ?_
  have hM37 : Mem w.heap.size [] w Z [.own (tyInt .i64) 3 none 0 ([] : List Int)] Z wd19 := hM20.addNil (tyInt .i64) 3 (by decide); clear hM20
  refine rt (fn := Try.f20) (v := .tuple #[.slice none ([] : List Int).length 0, .int .i64 (dcheckS u0)]) hF36 (re2 hF36 (fn := Try.f20) rfl (by kernel_rfl) (by kernel_rfl)) ?_
  exact ⟨(([] : List Int), (dcheckS u0)), none, 0, Z, rfl, hp29, hM37.keep (List.Sublist.cons_cons _ (List.Sublist.slnil))⟩
 ·
  have hp38 := hp8.2 hb28; clear hp8
  refine wp_skip ?_
  refine thn ?_
  refine sqH ?_; intro hQ39Q hQ39
  refine s1 hF27 15 (.slice ao1 u0.length cap2) ?_; intro a40 hF41; clear hF27
  refine s1 hF41 16 (.int .i64 (u0.length : Int)) ?_; intro a42 hF43; clear hF41
  have hc44 := hp38.1; have hp45 := hp38.2; clear hp38
  refine mks hF43 hM20 (T := (tyInt .i64)) (u0.length : Int) (u0.length : Int) (k := .i64) (k' := .i64) (e := 3) (bytes := 8) (zs := [.int .i64 0]) (z := 0) (by simp only [lim]; omega) (nog rfl _) rfl (by kernel_rfl) rfl (by kernel_rfl) (by kernel_rfl) (by kernel_rfl) (by kernel_rfl) rfl ?_; intro g46 a49 wd47 hF50 hM48; clear hF43 hM20
  have hM51 : Mem w.heap.size [] w Z [.own (tyInt .i64) 3 (some ⟨g46, 0, none⟩) ((u0.length : Int).toNat) (List.replicate (u0.length : Int).toNat (0 : Int))] Z wd47 := hM48; clear hM48
  refine s1 hF50 7 (.slice (some ⟨g46, 0, none⟩) (List.replicate (u0.length : Int).toNat (0 : Int)).length ((u0.length : Int).toNat)) ?_; intro a52 hF53; clear hF50
  refine nlH (hQ39 _ _ ?_); clear hQ39 hQ39Q
  refine wp_seq ?_
  refine sqH ?_; intro hQ54Q hQ54
  refine s1 hF53 18 (.slice ao4 u1.length cap5) ?_; intro a55 hF56; clear hF53
  refine s1 hF56 19 (.int .i64 (u1.length : Int)) ?_; intro a57 hF58; clear hF56
  refine s1 hF58 20 (.int .i64 0) ?_; intro a59 hF60; clear hF58
  refine nlH (hQ54 _ _ ?_); clear hQ54 hQ54Q
  refine wp_block ?_
  have hF61 : Fr 61 [] [⟨0, [], .slice ao1 u0.length cap2⟩, ⟨7, [], .slice (some ⟨g46, 0, none⟩) (List.replicate (u0.length : Int).toNat (0 : Int)).length ((u0.length : Int).toNat)⟩, ⟨18, [], .slice ao4 u1.length cap5⟩, ⟨19, [], .int .i64 (u1.length : Int)⟩, ⟨20, [], .int .i64 0⟩] a59 := hF60.reg; clear hF60
  have hF63 : Fr 61 [] [⟨0, [], .slice ao1 u0.length cap2⟩, ⟨7, [], .slice (some ⟨g46, 0, none⟩) (List.replicate (u0.length : Int).toNat (0 : Int)).length ((u0.length : Int).toNat)⟩, ⟨18, [], .slice ao4 u1.length cap5⟩, ⟨19, [], .int .i64 (u1.length : Int)⟩, ⟨20, [], .int .i64 0⟩] a59 := hF61.reg; clear hF61
  obtain ⟨inv62, mu62, hI66, hr65⟩ := hp45
  refine lp (ι := Int × (List Int)) (fun (s : Int × (List Int)) => [⟨0, [], .slice ao1 u0.length cap2⟩, ⟨7, [], .slice (some ⟨g46, 0, none⟩) s.2.length ((u0.length : Int).toNat)⟩, ⟨18, [], .slice ao4 u1.length cap5⟩, ⟨19, [], .int .i64 (u1.length : Int)⟩, ⟨20, [], .int .i64 s.1⟩]) (fun (s : Int × (List Int)) => [.own (tyInt .i64) 3 (some ⟨g46, 0, none⟩) ((u0.length : Int).toNat) s.2]) (fun (s : Int × (List Int)) => Z) (fun (s : Int × (List Int)) => inv62 s.1 s.2) (fun (s : Int × (List Int)) => mu62 s.1 s.2) ⟨0, (List.replicate (u0.length : Int).toNat (0 : Int))⟩ hI66 (by exact hF63.reg) (by exact hM51) ?_
  rintro ⟨x20, zg460⟩ hI64 a68 wd69 hF70 hM71
  have hF72 : Fr 61 [] [⟨0, [], .slice ao1 u0.length cap2⟩, ⟨7, [], .slice (some ⟨g46, 0, none⟩) zg460.length ((u0.length : Int).toNat)⟩, ⟨18, [], .slice ao4 u1.length cap5⟩, ⟨19, [], .int .i64 (u1.length : Int)⟩, ⟨20, [], .int .i64 x20⟩] a68 := hF70; clear hF70 hF63
  have hM73 : Mem w.heap.size [] w Z [.own (tyInt .i64) 3 (some ⟨g46, 0, none⟩) ((u0.length : Int).toNat) zg460] Z wd69 := hM71; clear hM71 hM51
  have hp74 := hr65 x20 zg460 hI64
  refine sqH ?_; intro hQ75Q hQ75
  refine s1 hF72 21 (.bool (decide (x20 < (u1.length : Int)))) ?_; intro a76 hF77; clear hF72
  refine nlH (hQ75 _ _ ?_); clear hQ75 hQ75Q
  refine wp_seq ?_
  refine cd hF77 (t := decide (x20 < (u1.length : Int))) (by kernel_rfl) (fun hb78 => ?_) (fun hb78 => ?_)
  ·
   have hp79 := hp74.1 hb78; clear hp74
   refine wp_skip ?_
   refine thn ?_
   refine wp_seq ?_
   refine wp_block ?_
   refine sqH ?_; intro hQ80Q hQ80
   have hc81 := hp79.1; have hp82 := hp79.2; clear hp79
   refine ix hF77 (T := tySlot) (xs := u1) hs6 x20 hc81 (k := .i64) (e := 48) (bytes := 32) (nog rfl _) rfl (by kernel_rfl) rfl (by kernel_rfl) (by kernel_rfl) (by kernel_rfl) ?_; intro b83 off84 cs85 q86 a90 hq87 hP88 hT89 hF91; clear hF77
   have hp92 := hp82 q86 hq87; clear hp82
   obtain rfl : cs85 = ([.int .i64 q86.Task, .int .i64 q86.Asked, .int .i64 q86.From, .int .i64 q86.End] : List Value) := hT89
   refine z2 hF91 hM73 23 hP88 0 4 [.int .i64 q86.Task, .int .i64 q86.Asked, .int .i64 q86.From, .int .i64 q86.End] rfl ?_; intro a93 hF94; clear hF91
   refine sn hF94 hM73 (fun b => .pointer (some ⟨b, 0, none⟩)) [.int .i64 0, .int .i64 0, .int .i64 0, .int .i64 0] 48 (nog rfl _) rfl (by kernel_rfl) (by kernel_rfl) ?_; intro b95 a96 wd98 hF97 hM99; clear hF94 hM73
   refine sr hF97 hM99 0 [.int .i64 q86.Task, .int .i64 q86.Asked, .int .i64 q86.From, .int .i64 q86.End] (b := b95) (off := 0) (cs := [.int .i64 0, .int .i64 0, .int .i64 0, .int .i64 0]) (ty := 48) (u := .agg #[.int .i64 q86.Task, .int .i64 q86.Asked, .int .i64 q86.From, .int .i64 q86.End]) (nog rfl _) rfl rfl (by kernel_rfl) (by kernel_rfl) (by kernel_rfl) (by kernel_rfl) (by kernel_rfl) (by kernel_rfl) (by kernel_rfl) ?_; intro wd100 hM101; clear hM99
   have hM102 : Mem w.heap.size [] w Z [.row b95 [.int .i64 q86.Task, .int .i64 q86.Asked, .int .i64 q86.From, .int .i64 q86.End] 48, .own (tyInt .i64) 3 (some ⟨g46, 0, none⟩) ((u0.length : Int).toNat) zg460] Z wd100 := hM101; clear hM101
   refine nlH (hQ80 _ _ ?_); clear hQ80 hQ80Q
   refine wp_seq ?_
   refine sqH ?_; intro hQ103Q hQ103
   refine s1 hF97 24 (.pointer (some ⟨b95, 0, none⟩)) ?_; intro a104 hF105; clear hF97
   refine l1 hF105 hM102 25 0 0 (.int .i64 q86.Task) rfl rfl ?_; intro a106 hF107; clear hF105
   refine s1 hF107 26 (.bool (decide (q86.Task < 0))) ?_; intro a108 hF109; clear hF107
   refine s1 hF109 27 (.bool (decide (q86.Task < 0))) ?_; intro a110 hF111; clear hF109
   have hF112 := hF111.atom ((decide (q86.Task < 0)) == false) (by kernel_rfl); clear hF111
   refine gp hF112 28 0 [] (decide (q86.Task < 0)) (.pointer (some ⟨b95, 0, none⟩)) rfl rfl ?_; intro a113 hF114; clear hF112
   refine gd hF114 (.int .i64 q86.Task) (m := 0) (cj := []) (bj := decide (q86.Task < 0)) rfl rfl (by kernel_rfl) rfl (by kernel_rfl) (by kernel_rfl) (by kernel_rfl) (fun hg => ld hF114 hM102 0 (g := [0]) (b := b95) (off := 0) (cs := [.int .i64 q86.Task, .int .i64 q86.Asked, .int .i64 q86.From, .int .i64 q86.End]) (ty := 48) rfl (by kernel_rfl) (by kernel_rfl) (by kernel_rfl) (by kernel_rfl) hg) ?_; intro a115 hF116; clear hF114
   refine gp hF116 30 0 [] (decide (q86.Task < 0)) (.slice ao1 u0.length cap2) rfl rfl ?_; intro a117 hF118; clear hF116
   refine gp hF118 31 0 [] (decide (q86.Task < 0)) (.int .i64 (u0.length : Int)) rfl rfl ?_; intro a119 hF120; clear hF118
   refine gp hF120 32 0 [] (decide (q86.Task < 0)) (.bool (decide (q86.Task ≥ (u0.length : Int)))) rfl rfl ?_; intro a121 hF122; clear hF120
   refine st hF122 (.bool ((decide (q86.Task < 0)) || (decide (q86.Task ≥ (u0.length : Int))))) (nog rfl _) rfl (by kernel_rfl) (pk_or hF122 (g := []) (m := 0) (b := decide (q86.Task < 0)) (v := decide (q86.Task ≥ (u0.length : Int))) rfl (by kernel_rfl) (by kernel_rfl) (by kernel_rfl) rfl) ?_; intro a123 hF124; clear hF122
   refine s1 hF124 34 (.bool ((decide (q86.Task < 0)) || (decide (q86.Task ≥ (u0.length : Int))))) ?_; intro a125 hF126; clear hF124
   have hF127 := hF126.atom (((decide (q86.Task < 0)) || (decide (q86.Task ≥ (u0.length : Int)))) == false) (by kernel_rfl); clear hF126
   refine gp hF127 35 1 [] ((decide (q86.Task < 0)) || (decide (q86.Task ≥ (u0.length : Int)))) (.pointer (some ⟨b95, 1, none⟩)) rfl rfl ?_; intro a128 hF129; clear hF127
   refine gd hF129 (.int .i64 q86.Asked) (m := 1) (cj := []) (bj := (decide (q86.Task < 0)) || (decide (q86.Task ≥ (u0.length : Int)))) rfl rfl (by kernel_rfl) rfl (by kernel_rfl) (by kernel_rfl) (by kernel_rfl) (fun hg => ld hF129 hM102 0 (g := [1]) (b := b95) (off := 1) (cs := [.int .i64 q86.Task, .int .i64 q86.Asked, .int .i64 q86.From, .int .i64 q86.End]) (ty := 48) rfl (by kernel_rfl) (by kernel_rfl) (by kernel_rfl) (by kernel_rfl) hg) ?_; intro a130 hF131; clear hF129
   refine gp hF131 37 1 [] ((decide (q86.Task < 0)) || (decide (q86.Task ≥ (u0.length : Int)))) (.bool (decide (q86.Asked < 0))) rfl rfl ?_; intro a132 hF133; clear hF131
   refine st hF133 (.bool (((decide (q86.Task < 0)) || (decide (q86.Task ≥ (u0.length : Int)))) || (decide (q86.Asked < 0)))) (nog rfl _) rfl (by kernel_rfl) (pk_or hF133 (g := []) (m := 1) (b := (decide (q86.Task < 0)) || (decide (q86.Task ≥ (u0.length : Int)))) (v := decide (q86.Asked < 0)) rfl (by kernel_rfl) (by kernel_rfl) (by kernel_rfl) rfl) ?_; intro a134 hF135; clear hF133
   refine s1 hF135 39 (.bool (((decide (q86.Task < 0)) || (decide (q86.Task ≥ (u0.length : Int)))) || (decide (q86.Asked < 0)))) ?_; intro a136 hF137; clear hF135
   have hF138 := hF137.atom ((((decide (q86.Task < 0)) || (decide (q86.Task ≥ (u0.length : Int)))) || (decide (q86.Asked < 0))) == false) (by kernel_rfl); clear hF137
   refine gp hF138 40 2 [] (((decide (q86.Task < 0)) || (decide (q86.Task ≥ (u0.length : Int)))) || (decide (q86.Asked < 0))) (.pointer (some ⟨b95, 3, none⟩)) rfl rfl ?_; intro a139 hF140; clear hF138
   refine gd hF140 (.int .i64 q86.End) (m := 2) (cj := []) (bj := ((decide (q86.Task < 0)) || (decide (q86.Task ≥ (u0.length : Int)))) || (decide (q86.Asked < 0))) rfl rfl (by kernel_rfl) rfl (by kernel_rfl) (by kernel_rfl) (by kernel_rfl) (fun hg => ld hF140 hM102 0 (g := [2]) (b := b95) (off := 3) (cs := [.int .i64 q86.Task, .int .i64 q86.Asked, .int .i64 q86.From, .int .i64 q86.End]) (ty := 48) rfl (by kernel_rfl) (by kernel_rfl) (by kernel_rfl) (by kernel_rfl) hg) ?_; intro a141 hF142; clear hF140
   refine gp hF142 42 2 [] (((decide (q86.Task < 0)) || (decide (q86.Task ≥ (u0.length : Int)))) || (decide (q86.Asked < 0))) (.bool (decide (q86.End > 10000000))) rfl rfl ?_; intro a143 hF144; clear hF142
   refine st hF144 (.bool ((((decide (q86.Task < 0)) || (decide (q86.Task ≥ (u0.length : Int)))) || (decide (q86.Asked < 0))) || (decide (q86.End > 10000000)))) (nog rfl _) rfl (by kernel_rfl) (pk_or hF144 (g := []) (m := 2) (b := ((decide (q86.Task < 0)) || (decide (q86.Task ≥ (u0.length : Int)))) || (decide (q86.Asked < 0))) (v := decide (q86.End > 10000000)) rfl (by kernel_rfl) (by kernel_rfl) (by kernel_rfl) rfl) ?_; intro a145 hF146; clear hF144
   refine nlH (hQ103 _ _ ?_); clear hQ103 hQ103Q
   refine cd hF146 (t := (((decide (q86.Task < 0)) || (decide (q86.Task ≥ (u0.length : Int)))) || (decide (q86.Asked < 0))) || (decide (q86.End > 10000000))) (by kernel_rfl) (fun hb147 => ?_) (fun hb147 => ?_)
   ·
    have hp148 := hp92.1 hb147; clear hp92
    have hF149 : Fr 61 [] [] a145 := hF146.reg; clear hF146
    refine sqH ?_; intro hQ150Q hQ150
    refine s1 hF149 4 (.slice none 0 0) ?_; intro a151 hF152; clear hF149
    refine s1 hF152 5 (.int .i64 3) ?_; intro a153 hF154; clear hF152
    refine nlH (hQ150 _ _ ?_); clear hQ150 hQ150Q
    refine wp_ret ?_
    refine thr ?_
    refine ibr ?_
    refine thr ?_
    refine thr ?_
    refine ibr ?_
    refine thr ?_
    have hM155 : Mem w.heap.size [] w Z [.own (tyInt .i64) 3 none 0 ([] : List Int), .row b95 [.int .i64 q86.Task, .int .i64 q86.Asked, .int .i64 q86.From, .int .i64 q86.End] 48, .own (tyInt .i64) 3 (some ⟨g46, 0, none⟩) ((u0.length : Int).toNat) zg460] Z wd100 := hM102.addNil (tyInt .i64) 3 (by decide); clear hM102
    refine rt (fn := Try.f20) (v := .tuple #[.slice none ([] : List Int).length 0, .int .i64 3]) hF154 (re2 hF154 (fn := Try.f20) rfl (by kernel_rfl) (by kernel_rfl)) ?_
    exact ⟨(([] : List Int), 3), none, 0, Z, rfl, hp148, hM155.keep (List.Sublist.cons_cons _ (List.Sublist.cons _ (List.Sublist.cons _ (List.Sublist.slnil))))⟩
   ·
    have hp156 := hp92.2 hb147; clear hp92
    refine wp_skip ?_
    refine thn ?_
    have hF157 : Fr 61 [] [⟨0, [], .slice ao1 u0.length cap2⟩, ⟨7, [], .slice (some ⟨g46, 0, none⟩) zg460.length ((u0.length : Int).toNat)⟩, ⟨9, [], .pointer (some ⟨b95, 0, none⟩)⟩, ⟨18, [], .slice ao4 u1.length cap5⟩, ⟨19, [], .int .i64 (u1.length : Int)⟩, ⟨20, [], .int .i64 x20⟩] a145 := hF146.reg; clear hF146
    have hcd6_0 := hp156.1; have hp201 := hp156.2; clear hp156
    obtain ⟨qd7_0, hqd7_0⟩ : ∃ q, zg460[q86.Task.toNat]? = some q := ⟨_, List.getElem?_eq_getElem (by omega)⟩; have hp202 := hp201 qd7_0 hqd7_0; clear hp201
    have hcd14_0 := hp202.1; have hp203 := hp202.2; clear hp202
    refine any_invE mixed [[], [], [1], [], [], [4], [3, 5], [6], [], [8], [], [10], [9, 11], [7, 12], [0, 1, 2, 3, 4, 5, 6, 7, 8, 9, 10, 11, 12, 13], [0, 1, 2, 3, 4, 5, 6, 7, 8, 9, 10, 11, 12, 13, 14]] 16 (fun S a w1 => ∃ (g170 : Nat) (g193 : Nat) (ud44 : Value) (ud45 : Value) (ud46 : Value) (ud47 : Value) (ud48 : Value) (ud49 : Value) (ud50 : Value) (ud51 : Value) (ud52 : Value) (ud53 : Value) (ud54 : Value) (ud55 : Value) (ud56 : Value) (ud57 : Value) (ud58 : Value) (rh0 : Res) (rh1 : Res), Fz.le Z Z ∧ Fr 61 [] [⟨0, [], .slice ao1 u0.length cap2⟩, ⟨7, [], .slice (some ⟨g46, 0, none⟩) zg460.length ((u0.length : Int).toNat)⟩, ⟨9, [], .pointer (some ⟨b95, 0, none⟩)⟩, ⟨18, [], .slice ao4 u1.length cap5⟩, ⟨19, [], .int .i64 (u1.length : Int)⟩, ⟨20, [], .int .i64 x20⟩, ⟨44, [], ud44⟩, ⟨45, [], ud45⟩, ⟨46, [], ud46⟩, ⟨47, [], ud47⟩, ⟨48, [], ud48⟩, ⟨49, [], ud49⟩, ⟨50, [], ud50⟩, ⟨51, [], ud51⟩, ⟨52, [], ud52⟩, ⟨53, [], ud53⟩, ⟨54, [], ud54⟩, ⟨55, [], ud55⟩, ⟨56, [], ud56⟩, ⟨57, [], ud57⟩, ⟨58, [], ud58⟩] a ∧ Mem w.heap.size [] w Z [rh0, rh1] Z w1 ∧ (S 0 = true → ud44 = .slice (some ⟨g46, 0, none⟩) zg460.length ((u0.length : Int).toNat)) ∧ (S 1 = true → ud45 = .pointer (some ⟨b95, 0, none⟩)) ∧ (S 2 = true → ud46 = .int .i64 q86.Task) ∧ (S 3 = true → ud47 = .slice (some ⟨g46, 0, none⟩) zg460.length ((u0.length : Int).toNat)) ∧ (S 4 = true → ud48 = .pointer (some ⟨b95, 0, none⟩)) ∧ (S 5 = true → ud49 = .int .i64 q86.Task) ∧ (S 6 = true → ud50 = .pointer (some ⟨g46, q86.Task.toNat * 1, none⟩)) ∧ (S 7 = true → ud51 = .int .i64 qd7_0) ∧ (S 8 = true → ud52 = .pointer (some ⟨b95, 3, none⟩)) ∧ (S 9 = true → ud53 = .int .i64 q86.End) ∧ (S 10 = true → ud54 = .pointer (some ⟨b95, 1, none⟩)) ∧ (S 11 = true → ud55 = .int .i64 q86.Asked) ∧ (S 12 = true → ud56 = .int .i64 (w64 (q86.End - q86.Asked))) ∧ (S 13 = true → ud57 = .int .i64 (max qd7_0 (w64 (q86.End - q86.Asked)))) ∧ (S 14 = true → ud58 = .pointer (some ⟨g46, q86.Task.toNat * 1, none⟩)) ∧ (rh0 = .row b95 [.int .i64 q86.Task, .int .i64 q86.Asked, .int .i64 q86.From, .int .i64 q86.End] 48) ∧ (S 15 = false → rh1 = .own (tyInt .i64) 3 (some ⟨g46, 0, none⟩) ((u0.length : Int).toNat) zg460) ∧ (S 15 = true → rh1 = .own (tyInt .i64) 3 (some ⟨g46, 0, none⟩) ((u0.length : Int).toNat) (zg460.set q86.Task.toNat (max qd7_0 (w64 (q86.End - q86.Asked)))))) ?h0 ?hs ?hE
    case h0 =>
     have hF205 := hF157.any 44
     have hF206 := hF205.any 45
     have hF207 := hF206.any 46
     have hF208 := hF207.any 47
     have hF209 := hF208.any 48
     have hF210 := hF209.any 49
     have hF211 := hF210.any 50
     have hF212 := hF211.any 51
     have hF213 := hF212.any 52
     have hF214 := hF213.any 53
     have hF215 := hF214.any 54
     have hF216 := hF215.any 55
     have hF217 := hF216.any 56
     have hF218 := hF217.any 57
     have hF219 := hF218.any 58
     have hM220 := (hM102.perm lpr).drew
     exact ⟨0, 0, a145.tmps.getD 44 undef, a145.tmps.getD 45 undef, a145.tmps.getD 46 undef, a145.tmps.getD 47 undef, a145.tmps.getD 48 undef, a145.tmps.getD 49 undef, a145.tmps.getD 50 undef, a145.tmps.getD 51 undef, a145.tmps.getD 52 undef, a145.tmps.getD 53 undef, a145.tmps.getD 54 undef, a145.tmps.getD 55 undef, a145.tmps.getD 56 undef, a145.tmps.getD 57 undef, a145.tmps.getD 58 undef, .row b95 [.int .i64 q86.Task, .int .i64 q86.Asked, .int .i64 q86.From, .int .i64 q86.End] 48, .own (tyInt .i64) 3 (some ⟨g46, 0, none⟩) ((u0.length : Int).toNat) zg460, Fz.le.refl _, hF219.reg, hM220, ff, ff, ff, ff, ff, ff, ff, ff, ff, ff, ff, ff, ff, ff, ff, rfl, kf, ff⟩
    case hs =>
     intro S hcl i o hil hi hSi hpre a w1 hI; refine Go.Sy.hid ?_; intro G hG; obtain ⟨g170, g193, ud44, ud45, ud46, ud47, ud48, ud49, ud50, ud51, ud52, ud53, ud54, ud55, ud56, ud57, ud58, rh0, rh1, hle204, hFx, hMx, cu44, cu45, cu46, cu47, cu48, cu49, cu50, cu51, cu52, cu53, cu54, cu55, cu56, cu57, cu58, cr0_0, cr1_0, hI⟩ := hI; have cr1_1 := hI; clear hI
     have hcase : i = 0 ∨ i = 1 ∨ i = 2 ∨ i = 3 ∨ i = 4 ∨ i = 5 ∨ i = 6 ∨ i = 7 ∨ i = 8 ∨ i = 9 ∨ i = 10 ∨ i = 11 ∨ i = 12 ∨ i = 13 ∨ i = 14 ∨ i = 15 := by clear hi; omega
     rcases hcase with rfl | rfl | rfl | rfl | rfl | rfl | rfl | rfl | rfl | rfl | rfl | rfl | rfl | rfl | rfl | rfl
     ·
      obtain rfl := oj hi
      have hx0 := hSi
      have hx14 := ngF hcl 14 0 hx0
      have hx15 := ngF hcl 15 0 hx0
      obtain rfl := cr0_0
      obtain rfl := cr1_0 hx15
      refine hG (any_step ?_); clear hG G; intro A J hJ
      have hle0 := Fz.le.trans hle0 hle204
      have hs221 := hs3.mono hle204
      have hs222 := hs6.mono hle204
      have hs223 := hP88.mono hle204
      refine s1 hFx 44 (.slice (some ⟨g46, 0, none⟩) zg460.length ((u0.length : Int).toNat)) ?_; intro a224 hF225; clear hFx
      refine nl (qnI (hJ _ _ ?_)); clear hJ J
      exact ⟨g170, g193, .slice (some ⟨g46, 0, none⟩) zg460.length ((u0.length : Int).toNat), ud45, ud46, ud47, ud48, ud49, ud50, ud51, ud52, ud53, ud54, ud55, ud56, ud57, ud58, .row b95 [.int .i64 q86.Task, .int .i64 q86.Asked, .int .i64 q86.From, .int .i64 q86.End] 48, .own (tyInt .i64) 3 (some ⟨g46, 0, none⟩) ((u0.length : Int).toNat) zg460, hle204, hF225.reg, hMx.perm lpr, kf, cu45, cu46, cu47, cu48, cu49, cu50, cu51, cu52, cu53, cu54, cu55, cu56, cu57, (nt hx14), rfl, kf, (nt hx15)⟩
     ·
      obtain rfl := oj hi
      have hx1 := hSi
      have hx2 := ngF hcl 2 1 hx1
      have hx14 := ngF hcl 14 1 hx1
      have hx15 := ngF hcl 15 1 hx1
      obtain rfl := cr0_0
      obtain rfl := cr1_0 hx15
      refine hG (any_step ?_); clear hG G; intro A J hJ
      have hle0 := Fz.le.trans hle0 hle204
      have hs227 := hs3.mono hle204
      have hs228 := hs6.mono hle204
      have hs229 := hP88.mono hle204
      refine s1 hFx 45 (.pointer (some ⟨b95, 0, none⟩)) ?_; intro a230 hF231; clear hFx
      refine nl (qnI (hJ _ _ ?_)); clear hJ J
      exact ⟨g170, g193, ud44, .pointer (some ⟨b95, 0, none⟩), ud46, ud47, ud48, ud49, ud50, ud51, ud52, ud53, ud54, ud55, ud56, ud57, ud58, .row b95 [.int .i64 q86.Task, .int .i64 q86.Asked, .int .i64 q86.From, .int .i64 q86.End] 48, .own (tyInt .i64) 3 (some ⟨g46, 0, none⟩) ((u0.length : Int).toNat) zg460, hle204, hF231.reg, hMx.perm lpr, cu44, kf, (nt hx2), cu47, cu48, cu49, cu50, cu51, cu52, cu53, cu54, cu55, cu56, cu57, (nt hx14), rfl, kf, (nt hx15)⟩
     ·
      obtain rfl := oj hi
      have hx1 := hpre 1 (by kernel_rfl)
      have hx2 := hSi
      have hx14 := ngF hcl 14 2 hx2
      have hx15 := ngF hcl 15 2 hx2
      obtain rfl := cu45 hx1
      obtain rfl := cr0_0
      obtain rfl := cr1_0 hx15
      refine hG (any_step ?_); clear hG G; intro A J hJ
      have hle0 := Fz.le.trans hle0 hle204
      have hs233 := hs3.mono hle204
      have hs234 := hs6.mono hle204
      have hs235 := hP88.mono hle204
      refine l1 hFx hMx 46 0 0 (.int .i64 q86.Task) rfl rfl ?_; intro a236 hF237; clear hFx
      refine nl (qnI (hJ _ _ ?_)); clear hJ J
      exact ⟨g170, g193, ud44, .pointer (some ⟨b95, 0, none⟩), .int .i64 q86.Task, ud47, ud48, ud49, ud50, ud51, ud52, ud53, ud54, ud55, ud56, ud57, ud58, .row b95 [.int .i64 q86.Task, .int .i64 q86.Asked, .int .i64 q86.From, .int .i64 q86.End] 48, .own (tyInt .i64) 3 (some ⟨g46, 0, none⟩) ((u0.length : Int).toNat) zg460, hle204, hF237.reg, hMx.perm lpr, cu44, kf, kf, cu47, cu48, cu49, cu50, cu51, cu52, cu53, cu54, cu55, cu56, cu57, (nt hx14), rfl, kf, (nt hx15)⟩
     ·
      obtain rfl := oj hi
      have hx3 := hSi
      have hx6 := ngF hcl 6 3 hx3
      have hx7 := ngF hcl 7 6 hx6
      have hx13 := ngF hcl 13 7 hx7
      have hx14 := ngF hcl 14 3 hx3
      have hx15 := ngF hcl 15 3 hx3
      obtain rfl := cr0_0
      obtain rfl := cr1_0 hx15
      refine hG (any_step ?_); clear hG G; intro A J hJ
      have hle0 := Fz.le.trans hle0 hle204
      have hs239 := hs3.mono hle204
      have hs240 := hs6.mono hle204
      have hs241 := hP88.mono hle204
      refine s1 hFx 47 (.slice (some ⟨g46, 0, none⟩) zg460.length ((u0.length : Int).toNat)) ?_; intro a242 hF243; clear hFx
      refine nl (qnI (hJ _ _ ?_)); clear hJ J
      exact ⟨g170, g193, ud44, ud45, ud46, .slice (some ⟨g46, 0, none⟩) zg460.length ((u0.length : Int).toNat), ud48, ud49, ud50, ud51, ud52, ud53, ud54, ud55, ud56, ud57, ud58, .row b95 [.int .i64 q86.Task, .int .i64 q86.Asked, .int .i64 q86.From, .int .i64 q86.End] 48, .own (tyInt .i64) 3 (some ⟨g46, 0, none⟩) ((u0.length : Int).toNat) zg460, hle204, hF243.reg, hMx.perm lpr, cu44, cu45, cu46, kf, cu48, cu49, (nt hx6), (nt hx7), cu52, cu53, cu54, cu55, cu56, (nt hx13), (nt hx14), rfl, kf, (nt hx15)⟩
     ·
      obtain rfl := oj hi
      have hx4 := hSi
      have hx5 := ngF hcl 5 4 hx4
      have hx6 := ngF hcl 6 5 hx5
      have hx7 := ngF hcl 7 6 hx6
      have hx13 := ngF hcl 13 7 hx7
      have hx14 := ngF hcl 14 4 hx4
      have hx15 := ngF hcl 15 4 hx4
      obtain rfl := cr0_0
      obtain rfl := cr1_0 hx15
      refine hG (any_step ?_); clear hG G; intro A J hJ
      have hle0 := Fz.le.trans hle0 hle204
      have hs245 := hs3.mono hle204
      have hs246 := hs6.mono hle204
      have hs247 := hP88.mono hle204
      refine s1 hFx 48 (.pointer (some ⟨b95, 0, none⟩)) ?_; intro a248 hF249; clear hFx
      refine nl (qnI (hJ _ _ ?_)); clear hJ J
      exact ⟨g170, g193, ud44, ud45, ud46, ud47, .pointer (some ⟨b95, 0, none⟩), ud49, ud50, ud51, ud52, ud53, ud54, ud55, ud56, ud57, ud58, .row b95 [.int .i64 q86.Task, .int .i64 q86.Asked, .int .i64 q86.From, .int .i64 q86.End] 48, .own (tyInt .i64) 3 (some ⟨g46, 0, none⟩) ((u0.length : Int).toNat) zg460, hle204, hF249.reg, hMx.perm lpr, cu44, cu45, cu46, cu47, kf, (nt hx5), (nt hx6), (nt hx7), cu52, cu53, cu54, cu55, cu56, (nt hx13), (nt hx14), rfl, kf, (nt hx15)⟩
     ·
      obtain rfl := oj hi
      have hx4 := hpre 4 (by kernel_rfl)
      have hx5 := hSi
      have hx6 := ngF hcl 6 5 hx5
      have hx7 := ngF hcl 7 6 hx6
      have hx13 := ngF hcl 13 7 hx7
      have hx14 := ngF hcl 14 5 hx5
      have hx15 := ngF hcl 15 5 hx5
      obtain rfl := cu48 hx4
      obtain rfl := cr0_0
      obtain rfl := cr1_0 hx15
      refine hG (any_step ?_); clear hG G; intro A J hJ
      have hle0 := Fz.le.trans hle0 hle204
      have hs251 := hs3.mono hle204
      have hs252 := hs6.mono hle204
      have hs253 := hP88.mono hle204
      refine l1 hFx hMx 49 0 0 (.int .i64 q86.Task) rfl rfl ?_; intro a254 hF255; clear hFx
      refine nl (qnI (hJ _ _ ?_)); clear hJ J
      exact ⟨g170, g193, ud44, ud45, ud46, ud47, .pointer (some ⟨b95, 0, none⟩), .int .i64 q86.Task, ud50, ud51, ud52, ud53, ud54, ud55, ud56, ud57, ud58, .row b95 [.int .i64 q86.Task, .int .i64 q86.Asked, .int .i64 q86.From, .int .i64 q86.End] 48, .own (tyInt .i64) 3 (some ⟨g46, 0, none⟩) ((u0.length : Int).toNat) zg460, hle204, hF255.reg, hMx.perm lpr, cu44, cu45, cu46, cu47, kf, kf, (nt hx6), (nt hx7), cu52, cu53, cu54, cu55, cu56, (nt hx13), (nt hx14), rfl, kf, (nt hx15)⟩
     ·
      obtain rfl := oj hi
      have hx5 := hpre 5 (by kernel_rfl)
      have hx3 := hpre 3 (by kernel_rfl)
      have hx4 := hcl 5 4 (by kernel_rfl) hx5
      have hx6 := hSi
      have hx7 := ngF hcl 7 6 hx6
      have hx13 := ngF hcl 13 7 hx7
      have hx14 := ngF hcl 14 6 hx6
      have hx15 := ngF hcl 15 6 hx6
      obtain rfl := cu47 hx3
      obtain rfl := cu48 hx4
      obtain rfl := cu49 hx5
      obtain rfl := cr0_0
      obtain rfl := cr1_0 hx15
      refine hG (any_step ?_); clear hG G; intro A J hJ
      have hle0 := Fz.le.trans hle0 hle204
      have hs257 := hs3.mono hle204
      have hs258 := hs6.mono hle204
      have hs259 := hP88.mono hle204
      refine ixo hFx hMx 1 (T := (tyInt .i64)) (xs := zg460) q86.Task (by simpa only [List.length_set] using hcd6_0) (k := .i64) (e := 3) (bytes := 8) (nog rfl _) rfl (by kernel_rfl) rfl (by kernel_rfl) (by kernel_rfl) rfl (by kernel_rfl) ?_; intro g260 a262 hg261 hF263; clear hFx
      obtain rfl : g46 = g260 := by simpa using hg261
      have hF264 : Fr 61 [] [⟨0, [], .slice ao1 u0.length cap2⟩, ⟨7, [], .slice (some ⟨g46, 0, none⟩) zg460.length ((u0.length : Int).toNat)⟩, ⟨9, [], .pointer (some ⟨b95, 0, none⟩)⟩, ⟨18, [], .slice ao4 u1.length cap5⟩, ⟨19, [], .int .i64 (u1.length : Int)⟩, ⟨20, [], .int .i64 x20⟩, ⟨44, [], ud44⟩, ⟨45, [], ud45⟩, ⟨46, [], ud46⟩, ⟨47, [], .slice (some ⟨g46, 0, none⟩) zg460.length ((u0.length : Int).toNat)⟩, ⟨48, [], .pointer (some ⟨b95, 0, none⟩)⟩, ⟨49, [], .int .i64 q86.Task⟩, ⟨50, [], .pointer (some ⟨g46, q86.Task.toNat * 1, none⟩)⟩, ⟨51, [], ud51⟩, ⟨52, [], ud52⟩, ⟨53, [], ud53⟩, ⟨54, [], ud54⟩, ⟨55, [], ud55⟩, ⟨56, [], ud56⟩, ⟨57, [], ud57⟩, ⟨58, [], ud58⟩] a262 := hF263.reg; clear hF263
      have hM265 : Mem w.heap.size [] w Z [.row b95 [.int .i64 q86.Task, .int .i64 q86.Asked, .int .i64 q86.From, .int .i64 q86.End] 48, .own (tyInt .i64) 3 (some ⟨g46, 0, none⟩) ((u0.length : Int).toNat) zg460] Z w1 := hMx; clear hMx
      refine nl (qnI (hJ _ _ ?_)); clear hJ J
      exact ⟨g46, g193, ud44, ud45, ud46, .slice (some ⟨g46, 0, none⟩) zg460.length ((u0.length : Int).toNat), .pointer (some ⟨b95, 0, none⟩), .int .i64 q86.Task, .pointer (some ⟨g46, q86.Task.toNat * 1, none⟩), ud51, ud52, ud53, ud54, ud55, ud56, ud57, ud58, .row b95 [.int .i64 q86.Task, .int .i64 q86.Asked, .int .i64 q86.From, .int .i64 q86.End] 48, .own (tyInt .i64) 3 (some ⟨g46, 0, none⟩) ((u0.length : Int).toNat) zg460, hle204, hF264.reg, hM265.perm lpr, cu44, cu45, cu46, kf, kf, kf, kf, (nt hx7), cu52, cu53, cu54, cu55, cu56, (nt hx13), (nt hx14), rfl, kf, (nt hx15)⟩
     ·
      obtain rfl := oj hi
      have hx6 := hpre 6 (by kernel_rfl)
      have hx5 := hcl 6 5 (by kernel_rfl) hx6
      have hx3 := hcl 6 3 (by kernel_rfl) hx6
      have hx4 := hcl 5 4 (by kernel_rfl) hx5
      have hx7 := hSi
      have hx13 := ngF hcl 13 7 hx7
      have hx14 := ngF hcl 14 7 hx7
      have hx15 := ngF hcl 15 7 hx7
      obtain rfl := cu47 hx3
      obtain rfl := cu48 hx4
      obtain rfl := cu49 hx5
      obtain rfl := cu50 hx6
      obtain rfl := cr0_0
      obtain rfl := cr1_0 hx15
      refine hG (any_step ?_); clear hG G; intro A J hJ
      have hle0 := Fz.le.trans hle0 hle204
      have hs267 := hs3.mono hle204
      have hs268 := hs6.mono hle204
      have hs269 := hP88.mono hle204
      obtain ⟨cs270, hT271, hcl272⟩ := own_el hMx 1 (T := (tyInt .i64)) (xs := zg460) rfl q86.Task.toNat hqd7_0
      obtain rfl : cs270 = ([.int .i64 qd7_0] : List Value) := hT271
      refine lc1 hFx 51 (.int .i64 qd7_0) (hcl272 0 _ rfl) rfl ?_; intro a273 hF274; clear hFx
      refine nl (qnI (hJ _ _ ?_)); clear hJ J
      exact ⟨g170, g193, ud44, ud45, ud46, .slice (some ⟨g46, 0, none⟩) zg460.length ((u0.length : Int).toNat), .pointer (some ⟨b95, 0, none⟩), .int .i64 q86.Task, .pointer (some ⟨g46, q86.Task.toNat * 1, none⟩), .int .i64 qd7_0, ud52, ud53, ud54, ud55, ud56, ud57, ud58, .row b95 [.int .i64 q86.Task, .int .i64 q86.Asked, .int .i64 q86.From, .int .i64 q86.End] 48, .own (tyInt .i64) 3 (some ⟨g46, 0, none⟩) ((u0.length : Int).toNat) zg460, hle204, hF274.reg, hMx.perm lpr, cu44, cu45, cu46, kf, kf, kf, kf, kf, cu52, cu53, cu54, cu55, cu56, (nt hx13), (nt hx14), rfl, kf, (nt hx15)⟩
     ·
      obtain rfl := oj hi
      have hx8 := hSi
      have hx9 := ngF hcl 9 8 hx8
      have hx12 := ngF hcl 12 9 hx9
      have hx13 := ngF hcl 13 12 hx12
      have hx14 := ngF hcl 14 8 hx8
      have hx15 := ngF hcl 15 8 hx8
      obtain rfl := cr0_0
      obtain rfl := cr1_0 hx15
      refine hG (any_step ?_); clear hG G; intro A J hJ
      have hle0 := Fz.le.trans hle0 hle204
      have hs276 := hs3.mono hle204
      have hs277 := hs6.mono hle204
      have hs278 := hP88.mono hle204
      refine s1 hFx 52 (.pointer (some ⟨b95, 3, none⟩)) ?_; intro a279 hF280; clear hFx
      refine nl (qnI (hJ _ _ ?_)); clear hJ J
      exact ⟨g170, g193, ud44, ud45, ud46, ud47, ud48, ud49, ud50, ud51, .pointer (some ⟨b95, 3, none⟩), ud53, ud54, ud55, ud56, ud57, ud58, .row b95 [.int .i64 q86.Task, .int .i64 q86.Asked, .int .i64 q86.From, .int .i64 q86.End] 48, .own (tyInt .i64) 3 (some ⟨g46, 0, none⟩) ((u0.length : Int).toNat) zg460, hle204, hF280.reg, hMx.perm lpr, cu44, cu45, cu46, cu47, cu48, cu49, cu50, cu51, kf, (nt hx9), cu54, cu55, (nt hx12), (nt hx13), (nt hx14), rfl, kf, (nt hx15)⟩
     ·
      obtain rfl := oj hi
      have hx8 := hpre 8 (by kernel_rfl)
      have hx9 := hSi
      have hx12 := ngF hcl 12 9 hx9
      have hx13 := ngF hcl 13 12 hx12
      have hx14 := ngF hcl 14 9 hx9
      have hx15 := ngF hcl 15 9 hx9
      obtain rfl := cu52 hx8
      obtain rfl := cr0_0
      obtain rfl := cr1_0 hx15
      refine hG (any_step ?_); clear hG G; intro A J hJ
      have hle0 := Fz.le.trans hle0 hle204
      have hs282 := hs3.mono hle204
      have hs283 := hs6.mono hle204
      have hs284 := hP88.mono hle204
      refine l1 hFx hMx 53 0 3 (.int .i64 q86.End) rfl rfl ?_; intro a285 hF286; clear hFx
      refine nl (qnI (hJ _ _ ?_)); clear hJ J
      exact ⟨g170, g193, ud44, ud45, ud46, ud47, ud48, ud49, ud50, ud51, .pointer (some ⟨b95, 3, none⟩), .int .i64 q86.End, ud54, ud55, ud56, ud57, ud58, .row b95 [.int .i64 q86.Task, .int .i64 q86.Asked, .int .i64 q86.From, .int .i64 q86.End] 48, .own (tyInt .i64) 3 (some ⟨g46, 0, none⟩) ((u0.length : Int).toNat) zg460, hle204, hF286.reg, hMx.perm lpr, cu44, cu45, cu46, cu47, cu48, cu49, cu50, cu51, kf, kf, cu54, cu55, (nt hx12), (nt hx13), (nt hx14), rfl, kf, (nt hx15)⟩
     ·
      obtain rfl := oj hi
      have hx10 := hSi
      have hx11 := ngF hcl 11 10 hx10
      have hx12 := ngF hcl 12 11 hx11
      have hx13 := ngF hcl 13 12 hx12
      have hx14 := ngF hcl 14 10 hx10
      have hx15 := ngF hcl 15 10 hx10
      obtain rfl := cr0_0
      obtain rfl := cr1_0 hx15
      refine hG (any_step ?_); clear hG G; intro A J hJ
      have hle0 := Fz.le.trans hle0 hle204
      have hs288 := hs3.mono hle204
      have hs289 := hs6.mono hle204
      have hs290 := hP88.mono hle204
      refine s1 hFx 54 (.pointer (some ⟨b95, 1, none⟩)) ?_; intro a291 hF292; clear hFx
      refine nl (qnI (hJ _ _ ?_)); clear hJ J
      exact ⟨g170, g193, ud44, ud45, ud46, ud47, ud48, ud49, ud50, ud51, ud52, ud53, .pointer (some ⟨b95, 1, none⟩), ud55, ud56, ud57, ud58, .row b95 [.int .i64 q86.Task, .int .i64 q86.Asked, .int .i64 q86.From, .int .i64 q86.End] 48, .own (tyInt .i64) 3 (some ⟨g46, 0, none⟩) ((u0.length : Int).toNat) zg460, hle204, hF292.reg, hMx.perm lpr, cu44, cu45, cu46, cu47, cu48, cu49, cu50, cu51, cu52, cu53, kf, (nt hx11), (nt hx12), (nt hx13), (nt hx14), rfl, kf, (nt hx15)⟩
     ·
      obtain rfl := oj hi
      have hx10 := hpre 10 (by kernel_rfl)
      have hx11 := hSi
      have hx12 := ngF hcl 12 11 hx11
      have hx13 := ngF hcl 13 12 hx12
      have hx14 := ngF hcl 14 11 hx11
      have hx15 := ngF hcl 15 11 hx11
      obtain rfl := cu54 hx10
      obtain rfl := cr0_0
      obtain rfl := cr1_0 hx15
      refine hG (any_step ?_); clear hG G; intro A J hJ
      have hle0 := Fz.le.trans hle0 hle204
      have hs294 := hs3.mono hle204
      have hs295 := hs6.mono hle204
      have hs296 := hP88.mono hle204
      refine l1 hFx hMx 55 0 1 (.int .i64 q86.Asked) rfl rfl ?_; intro a297 hF298; clear hFx
      refine nl (qnI (hJ _ _ ?_)); clear hJ J
      exact ⟨g170, g193, ud44, ud45, ud46, ud47, ud48, ud49, ud50, ud51, ud52, ud53, .pointer (some ⟨b95, 1, none⟩), .int .i64 q86.Asked, ud56, ud57, ud58, .row b95 [.int .i64 q86.Task, .int .i64 q86.Asked, .int .i64 q86.From, .int .i64 q86.End] 48, .own (tyInt .i64) 3 (some ⟨g46, 0, none⟩) ((u0.length : Int).toNat) zg460, hle204, hF298.reg, hMx.perm lpr, cu44, cu45, cu46, cu47, cu48, cu49, cu50, cu51, cu52, cu53, kf, kf, (nt hx12), (nt hx13), (nt hx14), rfl, kf, (nt hx15)⟩
     ·
      obtain rfl := oj hi
      have hx11 := hpre 11 (by kernel_rfl)
      have hx9 := hpre 9 (by kernel_rfl)
      have hx10 := hcl 11 10 (by kernel_rfl) hx11
      have hx8 := hcl 9 8 (by kernel_rfl) hx9
      have hx12 := hSi
      have hx13 := ngF hcl 13 12 hx12
      have hx14 := ngF hcl 14 12 hx12
      have hx15 := ngF hcl 15 12 hx12
      obtain rfl := cu52 hx8
      obtain rfl := cu53 hx9
      obtain rfl := cu54 hx10
      obtain rfl := cu55 hx11
      obtain rfl := cr0_0
      obtain rfl := cr1_0 hx15
      refine hG (any_step ?_); clear hG G; intro A J hJ
      have hle0 := Fz.le.trans hle0 hle204
      have hs300 := hs3.mono hle204
      have hs301 := hs6.mono hle204
      have hs302 := hP88.mono hle204
      refine s1 hFx 56 (.int .i64 (w64 (q86.End - q86.Asked))) ?_; intro a303 hF304; clear hFx
      refine nl (qnI (hJ _ _ ?_)); clear hJ J
      exact ⟨g170, g193, ud44, ud45, ud46, ud47, ud48, ud49, ud50, ud51, .pointer (some ⟨b95, 3, none⟩), .int .i64 q86.End, .pointer (some ⟨b95, 1, none⟩), .int .i64 q86.Asked, .int .i64 (w64 (q86.End - q86.Asked)), ud57, ud58, .row b95 [.int .i64 q86.Task, .int .i64 q86.Asked, .int .i64 q86.From, .int .i64 q86.End] 48, .own (tyInt .i64) 3 (some ⟨g46, 0, none⟩) ((u0.length : Int).toNat) zg460, hle204, hF304.reg, hMx.perm lpr, cu44, cu45, cu46, cu47, cu48, cu49, cu50, cu51, kf, kf, kf, kf, kf, (nt hx13), (nt hx14), rfl, kf, (nt hx15)⟩
     ·
      obtain rfl := oj hi
      have hx12 := hpre 12 (by kernel_rfl)
      have hx7 := hpre 7 (by kernel_rfl)
      have hx11 := hcl 12 11 (by kernel_rfl) hx12
      have hx9 := hcl 12 9 (by kernel_rfl) hx12
      have hx6 := hcl 7 6 (by kernel_rfl) hx7
      have hx10 := hcl 11 10 (by kernel_rfl) hx11
      have hx8 := hcl 9 8 (by kernel_rfl) hx9
      have hx5 := hcl 6 5 (by kernel_rfl) hx6
      have hx3 := hcl 6 3 (by kernel_rfl) hx6
      have hx4 := hcl 5 4 (by kernel_rfl) hx5
      have hx13 := hSi
      have hx14 := ngF hcl 14 13 hx13
      have hx15 := ngF hcl 15 13 hx13
      obtain rfl := cu47 hx3
      obtain rfl := cu48 hx4
      obtain rfl := cu49 hx5
      obtain rfl := cu50 hx6
      obtain rfl := cu51 hx7
      obtain rfl := cu52 hx8
      obtain rfl := cu53 hx9
      obtain rfl := cu54 hx10
      obtain rfl := cu55 hx11
      obtain rfl := cu56 hx12
      obtain rfl := cr0_0
      obtain rfl := cr1_0 hx15
      refine hG (any_step ?_); clear hG G; intro A J hJ
      have hle0 := Fz.le.trans hle0 hle204
      have hs306 := hs3.mono hle204
      have hs307 := hs6.mono hle204
      have hs308 := hP88.mono hle204
      refine st hFx (.int .i64 (max qd7_0 (w64 (q86.End - q86.Asked)))) (nog rfl _) rfl (by kernel_rfl) (re_ (p0 hFx (r := .ok (.value (.int .i64 (if qd7_0 < (w64 (q86.End - q86.Asked)) then (w64 (q86.End - q86.Asked)) else qd7_0))) w1) (by kernel_rfl)) (by rw [imax])) ?_; intro a309 hF310; clear hFx
      refine nl (qnI (hJ _ _ ?_)); clear hJ J
      exact ⟨g170, g193, ud44, ud45, ud46, .slice (some ⟨g46, 0, none⟩) zg460.length ((u0.length : Int).toNat), .pointer (some ⟨b95, 0, none⟩), .int .i64 q86.Task, .pointer (some ⟨g46, q86.Task.toNat * 1, none⟩), .int .i64 qd7_0, .pointer (some ⟨b95, 3, none⟩), .int .i64 q86.End, .pointer (some ⟨b95, 1, none⟩), .int .i64 q86.Asked, .int .i64 (w64 (q86.End - q86.Asked)), .int .i64 (max qd7_0 (w64 (q86.End - q86.Asked))), ud58, .row b95 [.int .i64 q86.Task, .int .i64 q86.Asked, .int .i64 q86.From, .int .i64 q86.End] 48, .own (tyInt .i64) 3 (some ⟨g46, 0, none⟩) ((u0.length : Int).toNat) zg460, hle204, hF310.reg, hMx.perm lpr, cu44, cu45, cu46, kf, kf, kf, kf, kf, kf, kf, kf, kf, kf, kf, (nt hx14), rfl, kf, (nt hx15)⟩
     ·
      obtain rfl := oj hi
      have hx13 := hpre 13 (by kernel_rfl)
      have hx12 := hpre 12 (by kernel_rfl)
      have hx11 := hpre 11 (by kernel_rfl)
      have hx10 := hpre 10 (by kernel_rfl)
      have hx9 := hpre 9 (by kernel_rfl)
      have hx8 := hpre 8 (by kernel_rfl)
      have hx7 := hpre 7 (by kernel_rfl)
      have hx6 := hpre 6 (by kernel_rfl)
      have hx5 := hpre 5 (by kernel_rfl)
      have hx4 := hpre 4 (by kernel_rfl)
      have hx3 := hpre 3 (by kernel_rfl)
      have hx2 := hpre 2 (by kernel_rfl)
      have hx1 := hpre 1 (by kernel_rfl)
      have hx0 := hpre 0 (by kernel_rfl)
      have hx14 := hSi
      have hx15 := ngF hcl 15 14 hx14
      obtain rfl := cu44 hx0
      obtain rfl := cu45 hx1
      obtain rfl := cu46 hx2
      obtain rfl := cu47 hx3
      obtain rfl := cu48 hx4
      obtain rfl := cu49 hx5
      obtain rfl := cu50 hx6
      obtain rfl := cu51 hx7
      obtain rfl := cu52 hx8
      obtain rfl := cu53 hx9
      obtain rfl := cu54 hx10
      obtain rfl := cu55 hx11
      obtain rfl := cu56 hx12
      obtain rfl := cu57 hx13
      obtain rfl := cr0_0
      obtain rfl := cr1_0 hx15
      refine hG (any_step ?_); clear hG G; intro A J hJ
      have hle0 := Fz.le.trans hle0 hle204
      have hs312 := hs3.mono hle204
      have hs313 := hs6.mono hle204
      have hs314 := hP88.mono hle204
      refine ixo hFx hMx 1 (T := (tyInt .i64)) (xs := zg460) q86.Task (by simpa only [List.length_set] using hcd14_0) (k := .i64) (e := 3) (bytes := 8) (nog rfl _) rfl (by kernel_rfl) rfl (by kernel_rfl) (by kernel_rfl) rfl (by kernel_rfl) ?_; intro g315 a317 hg316 hF318; clear hFx
      obtain rfl : g46 = g315 := by simpa using hg316
      have hF319 : Fr 61 [] [⟨0, [], .slice ao1 u0.length cap2⟩, ⟨7, [], .slice (some ⟨g46, 0, none⟩) zg460.length ((u0.length : Int).toNat)⟩, ⟨9, [], .pointer (some ⟨b95, 0, none⟩)⟩, ⟨18, [], .slice ao4 u1.length cap5⟩, ⟨19, [], .int .i64 (u1.length : Int)⟩, ⟨20, [], .int .i64 x20⟩, ⟨44, [], .slice (some ⟨g46, 0, none⟩) zg460.length ((u0.length : Int).toNat)⟩, ⟨45, [], .pointer (some ⟨b95, 0, none⟩)⟩, ⟨46, [], .int .i64 q86.Task⟩, ⟨47, [], .slice (some ⟨g46, 0, none⟩) zg460.length ((u0.length : Int).toNat)⟩, ⟨48, [], .pointer (some ⟨b95, 0, none⟩)⟩, ⟨49, [], .int .i64 q86.Task⟩, ⟨50, [], .pointer (some ⟨g46, q86.Task.toNat * 1, none⟩)⟩, ⟨51, [], .int .i64 qd7_0⟩, ⟨52, [], .pointer (some ⟨b95, 3, none⟩)⟩, ⟨53, [], .int .i64 q86.End⟩, ⟨54, [], .pointer (some ⟨b95, 1, none⟩)⟩, ⟨55, [], .int .i64 q86.Asked⟩, ⟨56, [], .int .i64 (w64 (q86.End - q86.Asked))⟩, ⟨57, [], .int .i64 (max qd7_0 (w64 (q86.End - q86.Asked)))⟩, ⟨58, [], .pointer (some ⟨g46, q86.Task.toNat * 1, none⟩)⟩] a317 := hF318.reg; clear hF318
      have hM320 : Mem w.heap.size [] w Z [.row b95 [.int .i64 q86.Task, .int .i64 q86.Asked, .int .i64 q86.From, .int .i64 q86.End] 48, .own (tyInt .i64) 3 (some ⟨g46, 0, none⟩) ((u0.length : Int).toNat) zg460] Z w1 := hMx; clear hMx
      refine nl (qnI (hJ _ _ ?_)); clear hJ J
      exact ⟨g170, g46, .slice (some ⟨g46, 0, none⟩) zg460.length ((u0.length : Int).toNat), .pointer (some ⟨b95, 0, none⟩), .int .i64 q86.Task, .slice (some ⟨g46, 0, none⟩) zg460.length ((u0.length : Int).toNat), .pointer (some ⟨b95, 0, none⟩), .int .i64 q86.Task, .pointer (some ⟨g46, q86.Task.toNat * 1, none⟩), .int .i64 qd7_0, .pointer (some ⟨b95, 3, none⟩), .int .i64 q86.End, .pointer (some ⟨b95, 1, none⟩), .int .i64 q86.Asked, .int .i64 (w64 (q86.End - q86.Asked)), .int .i64 (max qd7_0 (w64 (q86.End - q86.Asked))), .pointer (some ⟨g46, q86.Task.toNat * 1, none⟩), .row b95 [.int .i64 q86.Task, .int .i64 q86.Asked, .int .i64 q86.From, .int .i64 q86.End] 48, .own (tyInt .i64) 3 (some ⟨g46, 0, none⟩) ((u0.length : Int).toNat) zg460, hle204, hF319.reg, hM320.perm lpr, kf, kf, kf, kf, kf, kf, kf, kf, kf, kf, kf, kf, kf, kf, kf, rfl, kf, (nt hx15)⟩
     ·
      obtain rfl := oj hi
      have hx14 := hpre 14 (by kernel_rfl)
      have hx13 := hpre 13 (by kernel_rfl)
      have hx12 := hpre 12 (by kernel_rfl)
      have hx11 := hpre 11 (by kernel_rfl)
      have hx10 := hpre 10 (by kernel_rfl)
      have hx9 := hpre 9 (by kernel_rfl)
      have hx8 := hpre 8 (by kernel_rfl)
      have hx7 := hpre 7 (by kernel_rfl)
      have hx6 := hpre 6 (by kernel_rfl)
      have hx5 := hpre 5 (by kernel_rfl)
      have hx4 := hpre 4 (by kernel_rfl)
      have hx3 := hpre 3 (by kernel_rfl)
      have hx2 := hpre 2 (by kernel_rfl)
      have hx1 := hpre 1 (by kernel_rfl)
      have hx0 := hpre 0 (by kernel_rfl)
      have hx15 := hSi
      obtain rfl := cu44 hx0
      obtain rfl := cu45 hx1
      obtain rfl := cu46 hx2
      obtain rfl := cu47 hx3
      obtain rfl := cu48 hx4
      obtain rfl := cu49 hx5
      obtain rfl := cu50 hx6
      obtain rfl := cu51 hx7
      obtain rfl := cu52 hx8
      obtain rfl := cu53 hx9
      obtain rfl := cu54 hx10
      obtain rfl := cu55 hx11
      obtain rfl := cu56 hx12
      obtain rfl := cu57 hx13
      obtain rfl := cu58 hx14
      obtain rfl := cr0_0
      obtain rfl := cr1_0 hx15
      refine hG (any_step ?_); clear hG G; intro A J hJ
      have hle0 := Fz.le.trans hle0 hle204
      have hs322 := hs3.mono hle204
      have hs323 := hs6.mono hle204
      have hs324 := hP88.mono hle204
      refine so hFx hMx 1 (T := (tyInt .i64)) (xs := zg460) q86.Task.toNat (max qd7_0 (w64 (q86.End - q86.Asked))) (u := .int .i64 (max qd7_0 (w64 (q86.End - q86.Asked)))) (nog rfl _) rfl rfl (by kernel_rfl) rfl (by kernel_rfl) rfl (by kernel_rfl) (by first | omega | (simp only [List.length_set] at *; omega)) rfl ?_; intro wd325 hM326; clear hMx
      refine nl (qnI (hJ _ _ ?_)); clear hJ J
      exact ⟨g170, g193, .slice (some ⟨g46, 0, none⟩) zg460.length ((u0.length : Int).toNat), .pointer (some ⟨b95, 0, none⟩), .int .i64 q86.Task, .slice (some ⟨g46, 0, none⟩) zg460.length ((u0.length : Int).toNat), .pointer (some ⟨b95, 0, none⟩), .int .i64 q86.Task, .pointer (some ⟨g46, q86.Task.toNat * 1, none⟩), .int .i64 qd7_0, .pointer (some ⟨b95, 3, none⟩), .int .i64 q86.End, .pointer (some ⟨b95, 1, none⟩), .int .i64 q86.Asked, .int .i64 (w64 (q86.End - q86.Asked)), .int .i64 (max qd7_0 (w64 (q86.End - q86.Asked))), .pointer (some ⟨g46, q86.Task.toNat * 1, none⟩), .row b95 [.int .i64 q86.Task, .int .i64 q86.Asked, .int .i64 q86.From, .int .i64 q86.End] 48, .own (tyInt .i64) 3 (some ⟨g46, 0, none⟩) ((u0.length : Int).toNat) (zg460.set q86.Task.toNat (max qd7_0 (w64 (q86.End - q86.Asked)))), hle204, hFx.reg, hM326.perm lpr, kf, kf, kf, kf, kf, kf, kf, kf, kf, kf, kf, kf, kf, kf, kf, rfl, nu, kf⟩
    case hE =>
     intro S hS a328 wd329 hI; refine Go.Sy.hid ?_; intro G hG; obtain ⟨g170, g193, ud44, ud45, ud46, ud47, ud48, ud49, ud50, ud51, ud52, ud53, ud54, ud55, ud56, ud57, ud58, rh0, rh1, hle204, hFx, hMx, cu44, cu45, cu46, cu47, cu48, cu49, cu50, cu51, cu52, cu53, cu54, cu55, cu56, cu57, cu58, cr0_0, cr1_0, hI⟩ := hI; have cr1_1 := hI; clear hI; refine hG ?_; clear hG G
     obtain rfl := cu44 (hS 0 (by decide))
     obtain rfl := cu45 (hS 1 (by decide))
     obtain rfl := cu46 (hS 2 (by decide))
     obtain rfl := cu47 (hS 3 (by decide))
     obtain rfl := cu48 (hS 4 (by decide))
     obtain rfl := cu49 (hS 5 (by decide))
     obtain rfl := cu50 (hS 6 (by decide))
     obtain rfl := cu51 (hS 7 (by decide))
     obtain rfl := cu52 (hS 8 (by decide))
     obtain rfl := cu53 (hS 9 (by decide))
     obtain rfl := cu54 (hS 10 (by decide))
     obtain rfl := cu55 (hS 11 (by decide))
     obtain rfl := cu56 (hS 12 (by decide))
     obtain rfl := cu57 (hS 13 (by decide))
     obtain rfl := cu58 (hS 14 (by decide))
     obtain rfl := cr0_0
     obtain rfl := cr1_1 (hS 15 (by decide))
     have hle0 := Fz.le.trans hle0 hle204
     have hs330 := hs3.mono hle204
     have hs331 := hs6.mono hle204
     have hs332 := hP88.mono hle204
     have hl333 : (zg460.set q86.Task.toNat (max qd7_0 (w64 (q86.End - q86.Asked)))).length = zg460.length := by simp; try omega
     have hF334 : Fr 61 [] [⟨0, [], .slice ao1 u0.length cap2⟩, ⟨7, [], .slice (some ⟨g46, 0, none⟩) (zg460.set q86.Task.toNat (max qd7_0 (w64 (q86.End - q86.Asked)))).length ((u0.length : Int).toNat)⟩, ⟨9, [], .pointer (some ⟨b95, 0, none⟩)⟩, ⟨18, [], .slice ao4 u1.length cap5⟩, ⟨19, [], .int .i64 (u1.length : Int)⟩, ⟨20, [], .int .i64 x20⟩, ⟨44, [], .slice (some ⟨g46, 0, none⟩) (zg460.set q86.Task.toNat (max qd7_0 (w64 (q86.End - q86.Asked)))).length ((u0.length : Int).toNat)⟩, ⟨45, [], .pointer (some ⟨b95, 0, none⟩)⟩, ⟨46, [], .int .i64 q86.Task⟩, ⟨47, [], .slice (some ⟨g46, 0, none⟩) (zg460.set q86.Task.toNat (max qd7_0 (w64 (q86.End - q86.Asked)))).length ((u0.length : Int).toNat)⟩, ⟨48, [], .pointer (some ⟨b95, 0, none⟩)⟩, ⟨49, [], .int .i64 q86.Task⟩, ⟨50, [], .pointer (some ⟨g46, q86.Task.toNat * 1, none⟩)⟩, ⟨51, [], .int .i64 qd7_0⟩, ⟨52, [], .pointer (some ⟨b95, 3, none⟩)⟩, ⟨53, [], .int .i64 q86.End⟩, ⟨54, [], .pointer (some ⟨b95, 1, none⟩)⟩, ⟨55, [], .int .i64 q86.Asked⟩, ⟨56, [], .int .i64 (w64 (q86.End - q86.Asked))⟩, ⟨57, [], .int .i64 (max qd7_0 (w64 (q86.End - q86.Asked)))⟩, ⟨58, [], .pointer (some ⟨g46, q86.Task.toNat * 1, none⟩)⟩] a328 := by rw [hl333]; exact hFx.reg
     clear hFx
     refine ibn ?_
     refine thn ?_
     have hF335 : Fr 61 [] [⟨0, [], .slice ao1 u0.length cap2⟩, ⟨7, [], .slice (some ⟨g46, 0, none⟩) (zg460.set q86.Task.toNat (max qd7_0 (w64 (q86.End - q86.Asked)))).length ((u0.length : Int).toNat)⟩, ⟨18, [], .slice ao4 u1.length cap5⟩, ⟨19, [], .int .i64 (u1.length : Int)⟩, ⟨20, [], .int .i64 x20⟩] a328 := hF334.reg; clear hF334
     refine rgH ?_; intro hQ336Q hQ336
     refine s1 hF335 59 (.int .i64 (w64 (x20 + 1))) ?_; intro a337 hF338; clear hF335
     refine s1 hF338 20 (.int .i64 (w64 (x20 + 1))) ?_; intro a339 hF340; clear hF338
     refine nlH (hQ336 _ _ ?_); clear hQ336 hQ336Q
     refine rd ?_
     exact ⟨⟨w64 (x20 + 1), zg460.set q86.Task.toNat (max qd7_0 (w64 (q86.End - q86.Asked)))⟩, hp203.1, hp203.2, (hF340.reg).anyβ _ (by kernel_rfl), hMx.keep (List.Sublist.cons _ (List.Sublist.cons_cons _ (List.Sublist.slnil)))⟩
  ·
   have hp341 := hp74.2 hb78; clear hp74
   refine wp_exit ?_
   refine thx ?_
   refine thx ?_
   refine ibx ?_
   refine thn ?_
   refine sqH ?_; intro hQ342Q hQ342
   refine s1 hF77 60 (.slice (some ⟨g46, 0, none⟩) zg460.length ((u0.length : Int).toNat)) ?_; intro a343 hF344; clear hF77
   refine s1 hF344 4 (.slice (some ⟨g46, 0, none⟩) zg460.length ((u0.length : Int).toNat)) ?_; intro a345 hF346; clear hF344
   refine s1 hF346 5 (.int .i64 0) ?_; intro a347 hF348; clear hF346
   refine nlH (hQ342 _ _ ?_); clear hQ342 hQ342Q
   refine wp_ret ?_
   refine rt (fn := Try.f20) (v := .tuple #[.slice (some ⟨g46, 0, none⟩) zg460.length ((u0.length : Int).toNat), .int .i64 0]) hF348 (re2 hF348 (fn := Try.f20) rfl (by kernel_rfl) (by kernel_rfl)) ?_
   exact ⟨(zg460, 0), (some ⟨g46, 0, none⟩), ((u0.length : Int).toNat), Z, rfl, hp341, hM73.keep (List.Sublist.cons_cons _ (List.Sublist.slnil))⟩

set_option maxRecDepth 100000 in
set_option maxHeartbeats 0 in
theorem ctin_walk (u0 : Int) (u1 : Int) (u2 : Int)  (Z : Fz) (w : World)  (hZ : Z.on w) {K : Bool → Prop} (hp : ctin_vc u0 u1 u2 K) : Calls Try.prog 57 #[.int .i64 u0, .int .i64 u1, .int .i64 u2] w fun e w' => ∃ r : Bool, e = .returned (.bool r) ∧ K r ∧ Below w.heap.size w w' := by
 refine enter0 Try.func57 rfl rfl (by kernel_rfl) ?_; intro a0 hF0; have hM0 := Mem.start w Z hZ; have hle0 := Fz.le.refl Z
 refine sqH ?_; intro hQ1Q hQ1
 refine s1 hF0 6 (.bool false) ?_; intro a2 hF3; clear hF0
 refine nlH (hQ1 _ _ ?_); clear hQ1 hQ1Q
 refine sqH ?_; intro hQ4Q hQ4
 refine s1 hF3 7 (.int .i64 u0) ?_; intro a5 hF6; clear hF3
 refine s1 hF6 8 (.int .i64 u1) ?_; intro a7 hF8; clear hF6
 refine s1 hF8 9 (.bool (decide (u0 ≥ u1))) ?_; intro a9 hF10; clear hF8
 refine s1 hF10 10 (.bool (decide (u0 ≥ u1))) ?_; intro a11 hF12; clear hF10
 have hF13 := hF12.atom ((decide (u0 ≥ u1)) == true) (by kernel_rfl); clear hF12
 refine gp hF13 11 0 [] (decide (u0 ≥ u1)) (.int .i64 u0) rfl rfl ?_; intro a14 hF15; clear hF13
 refine gp hF15 12 0 [] (decide (u0 ≥ u1)) (.int .i64 u2) rfl rfl ?_; intro a16 hF17; clear hF15
 refine gp hF17 13 0 [] (decide (u0 ≥ u1)) (.bool (decide (u0 ≤ u2))) rfl rfl ?_; intro a18 hF19; clear hF17
 refine st hF19 (.bool ((decide (u0 ≥ u1)) && (decide (u0 ≤ u2)))) (nog rfl _) rfl (by kernel_rfl) (pk_and hF19 (g := []) (m := 0) (b := decide (u0 ≥ u1)) (v := decide (u0 ≤ u2)) rfl (by kernel_rfl) (by kernel_rfl) (by kernel_rfl) rfl) ?_; intro a20 hF21; clear hF19
 refine s1 hF21 6 (.bool ((decide (u0 ≥ u1)) && (decide (u0 ≤ u2)))) ?_; intro a22 hF23; clear hF21
 refine nlH (hQ4 _ _ ?_); clear hQ4 hQ4Q
 refine wp_ret ?_
 refine rt (fn := Try.f57) (v := .bool ((decide (u0 ≥ u1)) && (decide (u0 ≤ u2)))) hF23 (re1 hF23 (fn := Try.f57) rfl (by kernel_rfl)) ?_
 exact ⟨(decide (u0 ≥ u1)) && (decide (u0 ≤ u2)), rfl, hp, hM0.below⟩
theorem ctin_fun (u0 : Int) (u1 : Int) (u2 : Int)  (Z : Fz) (w : World)  (hZ : Z.on w) : Calls Try.prog 57 #[.int .i64 u0, .int .i64 u1, .int .i64 u2] w fun e w' => e = .returned (.bool (ctin u0 u1 u2)) ∧ Below w.heap.size w w' :=
  (ctin_walk u0 u1 u2  Z w  hZ (ctin_ok u0 u1 u2)).mono fun _ _ ⟨r, he, hk, hb⟩ => ⟨by subst hk; exact he, hb⟩

set_option maxRecDepth 100000 in
set_option maxHeartbeats 0 in
theorem ieq_walk (u0 : List Int) (u1 : List Int) (ao1 : Option Addr) (cap2 : Nat) (ao4 : Option Addr) (cap5 : Nat) (Z : Fz) (w : World) (hs3 : SlR (tyInt .i64) Z ao1 cap2 u0) (hs6 : SlR (tyInt .i64) Z ao4 cap5 u1) (hZ : Z.on w) {K : Bool → Prop} (hp : ieq_vc u0 u1 K) : Calls Try.prog 22 #[.slice ao1 u0.length cap2, .slice ao4 u1.length cap5] w fun e w' => ∃ r : Bool, e = .returned (.bool r) ∧ K r ∧ Below w.heap.size w w' := by
 refine enter0 Try.func22 rfl rfl (by kernel_rfl) ?_; intro a0 hF0; have hM0 := Mem.start w Z hZ; have hle0 := Fz.le.refl Z
 have hp7 := hp (hs3.small); clear hp
 have hp8 := hp7 (hs6.small); clear hp7
 refine sqH ?_; intro hQ9Q hQ9
 refine s1 hF0 4 (.bool false) ?_; intro a10 hF11; clear hF0
 refine nlH (hQ9 _ _ ?_); clear hQ9 hQ9Q
 refine wp_seq ?_
 refine sqH ?_; intro hQ12Q hQ12
 refine s1 hF11 6 (.slice ao1 u0.length cap2) ?_; intro a13 hF14; clear hF11
 refine s1 hF14 7 (.int .i64 (u0.length : Int)) ?_; intro a15 hF16; clear hF14
 refine s1 hF16 8 (.slice ao4 u1.length cap5) ?_; intro a17 hF18; clear hF16
 refine s1 hF18 9 (.int .i64 (u1.length : Int)) ?_; intro a19 hF20; clear hF18
 refine s1 hF20 10 (.bool ((u0.length : Int) != (u1.length : Int))) ?_; intro a21 hF22; clear hF20
 refine nlH (hQ12 _ _ ?_); clear hQ12 hQ12Q
 refine cd hF22 (t := (u0.length : Int) != (u1.length : Int)) (by kernel_rfl) (fun hb23 => ?_) (fun hb23 => ?_)
 ·
  have hp24 := hp8.1 hb23; clear hp8
  refine sqH ?_; intro hQ25Q hQ25
  refine s1 hF22 4 (.bool false) ?_; intro a26 hF27; clear hF22
  refine nlH (hQ25 _ _ ?_); clear hQ25 hQ25Q
  refine wp_ret ?_
  refine thr ?_
  refine rt (fn := Try.f22) (v := .bool false) hF27 (re1 hF27 (fn := Try.f22) rfl (by kernel_rfl)) ?_
  exact ⟨false, rfl, hp24, hM0.below⟩
 ·
  have hp28 := hp8.2 hb23; clear hp8
  refine wp_skip ?_
  refine thn ?_
  refine wp_seq ?_
  refine sqH ?_; intro hQ29Q hQ29
  refine s1 hF22 11 (.slice ao1 u0.length cap2) ?_; intro a30 hF31; clear hF22
  refine s1 hF31 12 (.int .i64 (u0.length : Int)) ?_; intro a32 hF33; clear hF31
  refine s1 hF33 13 (.int .i64 0) ?_; intro a34 hF35; clear hF33
  refine nlH (hQ29 _ _ ?_); clear hQ29 hQ29Q
  refine wp_block ?_
  have hF36 : Fr 26 [] [⟨0, [], .slice ao1 u0.length cap2⟩, ⟨1, [], .slice ao4 u1.length cap5⟩, ⟨12, [], .int .i64 (u0.length : Int)⟩, ⟨13, [], .int .i64 0⟩] a34 := hF35.reg; clear hF35
  have hF38 : Fr 26 [] [⟨0, [], .slice ao1 u0.length cap2⟩, ⟨1, [], .slice ao4 u1.length cap5⟩, ⟨12, [], .int .i64 (u0.length : Int)⟩, ⟨13, [], .int .i64 0⟩] a34 := hF36.reg; clear hF36
  obtain ⟨inv37, mu37, hI41, hr40⟩ := hp28
  refine lp (ι := Int) (fun (s : Int) => [⟨0, [], .slice ao1 u0.length cap2⟩, ⟨1, [], .slice ao4 u1.length cap5⟩, ⟨12, [], .int .i64 (u0.length : Int)⟩, ⟨13, [], .int .i64 s⟩]) (fun (s : Int) => []) (fun (s : Int) => Z) (fun (s : Int) => inv37 s) (fun (s : Int) => mu37 s) 0 hI41 (by exact hF38.reg) (by exact hM0) ?_
  rintro x13 hI39 a43 wd44 hF45 hM46
  have hF47 : Fr 26 [] [⟨0, [], .slice ao1 u0.length cap2⟩, ⟨1, [], .slice ao4 u1.length cap5⟩, ⟨12, [], .int .i64 (u0.length : Int)⟩, ⟨13, [], .int .i64 x13⟩] a43 := hF45; clear hF45 hF38
  have hM48 : Mem w.heap.size [] w Z [] Z wd44 := hM46; clear hM46 hM0
  have hp49 := hr40 x13 hI39
  refine sqH ?_; intro hQ50Q hQ50
  refine s1 hF47 14 (.bool (decide (x13 < (u0.length : Int)))) ?_; intro a51 hF52; clear hF47
  refine nlH (hQ50 _ _ ?_); clear hQ50 hQ50Q
  refine wp_seq ?_
  refine cd hF52 (t := decide (x13 < (u0.length : Int))) (by kernel_rfl) (fun hb53 => ?_) (fun hb53 => ?_)
  ·
   have hp54 := hp49.1 hb53; clear hp49
   refine wp_skip ?_
   refine thn ?_
   refine wp_seq ?_
   refine wp_block ?_
   refine sqH ?_; intro hQ55Q hQ55
   refine s1 hF52 15 (.int .i64 x13) ?_; intro a56 hF57; clear hF52
   refine s1 hF57 5 (.int .i64 x13) ?_; intro a58 hF59; clear hF57
   refine nlH (hQ55 _ _ ?_); clear hQ55 hQ55Q
   have hF60 : Fr 26 [] [⟨0, [], .slice ao1 u0.length cap2⟩, ⟨1, [], .slice ao4 u1.length cap5⟩, ⟨5, [], .int .i64 x13⟩, ⟨12, [], .int .i64 (u0.length : Int)⟩, ⟨13, [], .int .i64 x13⟩] a58 := hF59.reg; clear hF59
   refine sqQH mixed (by kernel_rfl) hM48 ?_; intro hQ61Q hQ61
   refine q1 hF60 16 (.slice ao1 u0.length cap2) ?_; intro a63 hF64; clear hF60
   refine q1 hF64 17 (.int .i64 x13) ?_; intro a66 hF67; clear hF64
   have hc69 := hp54.1; have hp70 := hp54.2; clear hp54
   refine qix hF67 (T := (tyInt .i64)) (xs := u0) hs3 x13 hc69 (k := .i64) (e := 3) (bytes := 8) (nog rfl _) rfl (by kernel_rfl) rfl (by kernel_rfl) (by kernel_rfl) (by kernel_rfl) ?_; intro b71 off72 cs73 q74 a78 hq75 hP76 hT77 hF79; clear hF67
   have hp80 := hp70 q74 hq75; clear hp70
   obtain rfl : cs73 = ([.int .i64 q74] : List Value) := hT77
   refine qst hF79 (.int .i64 q74) (nog rfl _) rfl (by kernel_rfl) (fun v81 hC => lz hF79 hC.fz hP76 0 (g := []) rfl (by kernel_rfl) (by kernel_rfl) (by kernel_rfl) rfl) ?_; intro a82 hF83; clear hF79
   refine q1 hF83 20 (.slice ao4 u1.length cap5) ?_; intro a85 hF86; clear hF83
   refine q1 hF86 21 (.int .i64 x13) ?_; intro a88 hF89; clear hF86
   have hc91 := hp80.1; have hp92 := hp80.2; clear hp80
   refine qix hF89 (T := (tyInt .i64)) (xs := u1) hs6 x13 hc91 (k := .i64) (e := 3) (bytes := 8) (nog rfl _) rfl (by kernel_rfl) rfl (by kernel_rfl) (by kernel_rfl) (by kernel_rfl) ?_; intro b93 off94 cs95 q96 a100 hq97 hP98 hT99 hF101; clear hF89
   have hp102 := hp92 q96 hq97; clear hp92
   obtain rfl : cs95 = ([.int .i64 q96] : List Value) := hT99
   refine qst hF101 (.int .i64 q96) (nog rfl _) rfl (by kernel_rfl) (fun v103 hC => lz hF101 hC.fz hP98 0 (g := []) rfl (by kernel_rfl) (by kernel_rfl) (by kernel_rfl) rfl) ?_; intro a104 hF105; clear hF101
   refine q1 hF105 24 (.bool (q74 != q96)) ?_; intro a107 hF108; clear hF105
   refine qnl (hQ61 _ ?_); clear hQ61 hQ61Q; intro wd109 hM110; clear hM48
   refine cd hF108 (t := q74 != q96) (by kernel_rfl) (fun hb111 => ?_) (fun hb111 => ?_)
   ·
    have hp112 := hp102.1 hb111; clear hp102
    refine sqH ?_; intro hQ113Q hQ113
    refine s1 hF108 4 (.bool false) ?_; intro a114 hF115; clear hF108
    refine nlH (hQ113 _ _ ?_); clear hQ113 hQ113Q
    refine wp_ret ?_
    refine ibr ?_
    refine thr ?_
    refine thr ?_
    refine ibr ?_
    refine thr ?_
    refine rt (fn := Try.f22) (v := .bool false) hF115 (re1 hF115 (fn := Try.f22) rfl (by kernel_rfl)) ?_
    exact ⟨false, rfl, hp112, hM110.below⟩
   ·
    have hp116 := hp102.2 hb111; clear hp102
    refine wp_skip ?_
    refine ibn ?_
    refine thn ?_
    refine rgH ?_; intro hQ117Q hQ117
    refine s1 hF108 25 (.int .i64 (w64 (x13 + 1))) ?_; intro a118 hF119; clear hF108
    refine s1 hF119 13 (.int .i64 (w64 (x13 + 1))) ?_; intro a120 hF121; clear hF119
    refine nlH (hQ117 _ _ ?_); clear hQ117 hQ117Q
    refine rd ?_
    exact ⟨w64 (x13 + 1), hp116.1, hp116.2, (hF121.reg).anyβ _ (by kernel_rfl), hM110.keep (List.Sublist.slnil)⟩
  ·
   have hp122 := hp49.2 hb53; clear hp49
   refine wp_exit ?_
   refine thx ?_
   refine thx ?_
   refine ibx ?_
   refine thn ?_
   refine sqH ?_; intro hQ123Q hQ123
   refine s1 hF52 4 (.bool true) ?_; intro a124 hF125; clear hF52
   refine nlH (hQ123 _ _ ?_); clear hQ123 hQ123Q
   refine wp_ret ?_
   refine rt (fn := Try.f22) (v := .bool true) hF125 (re1 hF125 (fn := Try.f22) rfl (by kernel_rfl)) ?_
   exact ⟨true, rfl, hp122, hM48.below⟩

set_option maxRecDepth 100000 in
set_option maxHeartbeats 0 in
theorem sleq_walk (u0 : List Slot) (u1 : List Slot) (ao1 : Option Addr) (cap2 : Nat) (ao4 : Option Addr) (cap5 : Nat) (Z : Fz) (w : World) (hs3 : SlR tySlot Z ao1 cap2 u0) (hs6 : SlR tySlot Z ao4 cap5 u1) (hZ : Z.on w) {K : Bool → Prop} (hp : sleq_vc u0 u1 K) : Calls Try.prog 56 #[.slice ao1 u0.length cap2, .slice ao4 u1.length cap5] w fun e w' => ∃ r : Bool, e = .returned (.bool r) ∧ K r ∧ Below w.heap.size w w' := by
 refine enter0 Try.func56 rfl rfl (by kernel_rfl) ?_; intro a0 hF0; have hM0 := Mem.start w Z hZ; have hle0 := Fz.le.refl Z
 have hp7 := hp (hs3.small); clear hp
 have hp8 := hp7 (hs6.small); clear hp7
 refine sqH ?_; intro hQ9Q hQ9
 refine s1 hF0 4 (.bool false) ?_; intro a10 hF11; clear hF0
 refine nlH (hQ9 _ _ ?_); clear hQ9 hQ9Q
 refine wp_seq ?_
 refine sqH ?_; intro hQ12Q hQ12
 refine s1 hF11 6 (.slice ao1 u0.length cap2) ?_; intro a13 hF14; clear hF11
 refine s1 hF14 7 (.int .i64 (u0.length : Int)) ?_; intro a15 hF16; clear hF14
 refine s1 hF16 8 (.slice ao4 u1.length cap5) ?_; intro a17 hF18; clear hF16
 refine s1 hF18 9 (.int .i64 (u1.length : Int)) ?_; intro a19 hF20; clear hF18
 refine s1 hF20 10 (.bool ((u0.length : Int) != (u1.length : Int))) ?_; intro a21 hF22; clear hF20
 refine nlH (hQ12 _ _ ?_); clear hQ12 hQ12Q
 refine cd hF22 (t := (u0.length : Int) != (u1.length : Int)) (by kernel_rfl) (fun hb23 => ?_) (fun hb23 => ?_)
 ·
  have hp24 := hp8.1 hb23; clear hp8
  refine sqH ?_; intro hQ25Q hQ25
  refine s1 hF22 4 (.bool false) ?_; intro a26 hF27; clear hF22
  refine nlH (hQ25 _ _ ?_); clear hQ25 hQ25Q
  refine wp_ret ?_
  refine thr ?_
  refine rt (fn := Try.f56) (v := .bool false) hF27 (re1 hF27 (fn := Try.f56) rfl (by kernel_rfl)) ?_
  exact ⟨false, rfl, hp24, hM0.below⟩
 ·
  have hp28 := hp8.2 hb23; clear hp8
  refine wp_skip ?_
  refine thn ?_
  refine wp_seq ?_
  refine sqH ?_; intro hQ29Q hQ29
  refine s1 hF22 11 (.slice ao1 u0.length cap2) ?_; intro a30 hF31; clear hF22
  refine s1 hF31 12 (.int .i64 (u0.length : Int)) ?_; intro a32 hF33; clear hF31
  refine s1 hF33 13 (.int .i64 0) ?_; intro a34 hF35; clear hF33
  refine nlH (hQ29 _ _ ?_); clear hQ29 hQ29Q
  refine wp_block ?_
  have hF36 : Fr 26 [] [⟨0, [], .slice ao1 u0.length cap2⟩, ⟨1, [], .slice ao4 u1.length cap5⟩, ⟨12, [], .int .i64 (u0.length : Int)⟩, ⟨13, [], .int .i64 0⟩] a34 := hF35.reg; clear hF35
  have hF38 : Fr 26 [] [⟨0, [], .slice ao1 u0.length cap2⟩, ⟨1, [], .slice ao4 u1.length cap5⟩, ⟨12, [], .int .i64 (u0.length : Int)⟩, ⟨13, [], .int .i64 0⟩] a34 := hF36.reg; clear hF36
  obtain ⟨inv37, mu37, hI41, hr40⟩ := hp28
  refine lp (ι := Int) (fun (s : Int) => [⟨0, [], .slice ao1 u0.length cap2⟩, ⟨1, [], .slice ao4 u1.length cap5⟩, ⟨12, [], .int .i64 (u0.length : Int)⟩, ⟨13, [], .int .i64 s⟩]) (fun (s : Int) => []) (fun (s : Int) => Z) (fun (s : Int) => inv37 s) (fun (s : Int) => mu37 s) 0 hI41 (by exact hF38.reg) (by exact hM0) ?_
  rintro x13 hI39 a43 wd44 hF45 hM46
  have hF47 : Fr 26 [] [⟨0, [], .slice ao1 u0.length cap2⟩, ⟨1, [], .slice ao4 u1.length cap5⟩, ⟨12, [], .int .i64 (u0.length : Int)⟩, ⟨13, [], .int .i64 x13⟩] a43 := hF45; clear hF45 hF38
  have hM48 : Mem w.heap.size [] w Z [] Z wd44 := hM46; clear hM46 hM0
  have hp49 := hr40 x13 hI39
  refine sqH ?_; intro hQ50Q hQ50
  refine s1 hF47 14 (.bool (decide (x13 < (u0.length : Int)))) ?_; intro a51 hF52; clear hF47
  refine nlH (hQ50 _ _ ?_); clear hQ50 hQ50Q
  refine wp_seq ?_
  refine cd hF52 (t := decide (x13 < (u0.length : Int))) (by kernel_rfl) (fun hb53 => ?_) (fun hb53 => ?_)
  ·
   have hp54 := hp49.1 hb53; clear hp49
   refine wp_skip ?_
   refine thn ?_
   refine wp_seq ?_
   refine wp_block ?_
   refine sqH ?_; intro hQ55Q hQ55
   refine s1 hF52 15 (.int .i64 x13) ?_; intro a56 hF57; clear hF52
   refine s1 hF57 5 (.int .i64 x13) ?_; intro a58 hF59; clear hF57
   refine nlH (hQ55 _ _ ?_); clear hQ55 hQ55Q
   have hF60 : Fr 26 [] [⟨0, [], .slice ao1 u0.length cap2⟩, ⟨1, [], .slice ao4 u1.length cap5⟩, ⟨5, [], .int .i64 x13⟩, ⟨12, [], .int .i64 (u0.length : Int)⟩, ⟨13, [], .int .i64 x13⟩] a58 := hF59.reg; clear hF59
   refine sqQH mixed (by kernel_rfl) hM48 ?_; intro hQ61Q hQ61
   refine q1 hF60 16 (.slice ao1 u0.length cap2) ?_; intro a63 hF64; clear hF60
   refine q1 hF64 17 (.int .i64 x13) ?_; intro a66 hF67; clear hF64
   have hc69 := hp54.1; have hp70 := hp54.2; clear hp54
   refine qix hF67 (T := tySlot) (xs := u0) hs3 x13 hc69 (k := .i64) (e := 48) (bytes := 32) (nog rfl _) rfl (by kernel_rfl) rfl (by kernel_rfl) (by kernel_rfl) (by kernel_rfl) ?_; intro b71 off72 cs73 q74 a78 hq75 hP76 hT77 hF79; clear hF67
   have hp80 := hp70 q74 hq75; clear hp70
   obtain rfl : cs73 = ([.int .i64 q74.Task, .int .i64 q74.Asked, .int .i64 q74.From, .int .i64 q74.End] : List Value) := hT77
   refine qst hF79 (.agg #[.int .i64 q74.Task, .int .i64 q74.Asked, .int .i64 q74.From, .int .i64 q74.End]) (nog rfl _) rfl (by kernel_rfl) (fun v81 hC => lza hF79 hC.fz hP76 0 (g := []) (m := 4) (vs := [.int .i64 q74.Task, .int .i64 q74.Asked, .int .i64 q74.From, .int .i64 q74.End]) rfl (by kernel_rfl) (by kernel_rfl) (by kernel_rfl) (by kernel_rfl) rfl) ?_; intro a82 hF83; clear hF79
   refine q1 hF83 20 (.slice ao4 u1.length cap5) ?_; intro a85 hF86; clear hF83
   refine q1 hF86 21 (.int .i64 x13) ?_; intro a88 hF89; clear hF86
   have hc91 := hp80.1; have hp92 := hp80.2; clear hp80
   refine qix hF89 (T := tySlot) (xs := u1) hs6 x13 hc91 (k := .i64) (e := 48) (bytes := 32) (nog rfl _) rfl (by kernel_rfl) rfl (by kernel_rfl) (by kernel_rfl) (by kernel_rfl) ?_; intro b93 off94 cs95 q96 a100 hq97 hP98 hT99 hF101; clear hF89
   have hp102 := hp92 q96 hq97; clear hp92
   obtain rfl : cs95 = ([.int .i64 q96.Task, .int .i64 q96.Asked, .int .i64 q96.From, .int .i64 q96.End] : List Value) := hT99
   refine qst hF101 (.agg #[.int .i64 q96.Task, .int .i64 q96.Asked, .int .i64 q96.From, .int .i64 q96.End]) (nog rfl _) rfl (by kernel_rfl) (fun v103 hC => lza hF101 hC.fz hP98 0 (g := []) (m := 4) (vs := [.int .i64 q96.Task, .int .i64 q96.Asked, .int .i64 q96.From, .int .i64 q96.End]) rfl (by kernel_rfl) (by kernel_rfl) (by kernel_rfl) (by kernel_rfl) rfl) ?_; intro a104 hF105; clear hF101
   refine qst hF105 (.bool (!((q74.Task == q96.Task) && ((q74.Asked == q96.Asked) && ((q74.From == q96.From) && ((q74.End == q96.End) && true)))))) (nog rfl _) rfl (by kernel_rfl) (fun v106 hC => nes_run hF105 (g := []) (xs := #[.int .i64 q74.Task, .int .i64 q74.Asked, .int .i64 q74.From, .int .i64 q74.End]) (ys := #[.int .i64 q96.Task, .int .i64 q96.Asked, .int .i64 q96.From, .int .i64 q96.End]) (b := (q74.Task == q96.Task) && ((q74.Asked == q96.Asked) && ((q74.From == q96.From) && ((q74.End == q96.End) && true)))) rfl (by kernel_rfl) (by kernel_rfl) (by kernel_rfl) (by kernel_rfl) rfl) ?_; intro a107 hF108; clear hF105
   refine qnl (hQ61 _ ?_); clear hQ61 hQ61Q; intro wd109 hM110; clear hM48
   refine cd hF108 (t := !((q74.Task == q96.Task) && ((q74.Asked == q96.Asked) && ((q74.From == q96.From) && ((q74.End == q96.End) && true))))) (by kernel_rfl) (fun hb111 => ?_) (fun hb111 => ?_)
   ·
    have hp112 := hp102.1 hb111; clear hp102
    refine sqH ?_; intro hQ113Q hQ113
    refine s1 hF108 4 (.bool false) ?_; intro a114 hF115; clear hF108
    refine nlH (hQ113 _ _ ?_); clear hQ113 hQ113Q
    refine wp_ret ?_
    refine ibr ?_
    refine thr ?_
    refine thr ?_
    refine ibr ?_
    refine thr ?_
    refine rt (fn := Try.f56) (v := .bool false) hF115 (re1 hF115 (fn := Try.f56) rfl (by kernel_rfl)) ?_
    exact ⟨false, rfl, hp112, hM110.below⟩
   ·
    have hp116 := hp102.2 hb111; clear hp102
    refine wp_skip ?_
    refine ibn ?_
    refine thn ?_
    refine rgH ?_; intro hQ117Q hQ117
    refine s1 hF108 25 (.int .i64 (w64 (x13 + 1))) ?_; intro a118 hF119; clear hF108
    refine s1 hF119 13 (.int .i64 (w64 (x13 + 1))) ?_; intro a120 hF121; clear hF119
    refine nlH (hQ117 _ _ ?_); clear hQ117 hQ117Q
    refine rd ?_
    exact ⟨w64 (x13 + 1), hp116.1, hp116.2, (hF121.reg).anyβ _ (by kernel_rfl), hM110.keep (List.Sublist.slnil)⟩
  ·
   have hp122 := hp49.2 hb53; clear hp49
   refine wp_exit ?_
   refine thx ?_
   refine thx ?_
   refine ibx ?_
   refine thn ?_
   refine sqH ?_; intro hQ123Q hQ123
   refine s1 hF52 4 (.bool true) ?_; intro a124 hF125; clear hF52
   refine nlH (hQ123 _ _ ?_); clear hQ123 hQ123Q
   refine wp_ret ?_
   refine rt (fn := Try.f56) (v := .bool true) hF125 (re1 hF125 (fn := Try.f56) rfl (by kernel_rfl)) ?_
   exact ⟨true, rfl, hp122, hM48.below⟩

end Go.Proofs.Ytginlmgkimfjmaa
