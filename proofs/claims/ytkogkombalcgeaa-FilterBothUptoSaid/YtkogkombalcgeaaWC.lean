/- The walks, made by program: each call does what its pure predicate says. -/
import Derived.Test.YtkogkombalcgeaaPC
import Derived.Test.YtkogkombalcgeaaWB
set_option linter.unusedVariables false
set_option linter.unusedSimpArgs false
namespace Go.Proofs.Ytkogkombalcgeaa
open Go.Sy Go.RowKit
theorem fcount_all : ∀ (n : Nat) (u0 : List Filter) (u1 : Int) (u2 : Int) (u3 : Int), cmu u0 u1 u2 u3 < n → cpre u0 u1 u2 u3 → ∀ (ao1 : Option Addr) (cap2 : Nat) (Z : Fz) (w : World) (hs3 : SlR tyFilter Z ao1 cap2 u0) (hZ : Z.on w), Calls Try.prog 49 #[.slice ao1 u0.length cap2, .int .i64 u1, .int .i64 u2, .int .i64 u3] w fun e w' => e = .returned (.int .i64 (countS u0 u1 u2 u3)) ∧ Below w.heap.size w w' := by
  intro n
  induction n with
  | zero => intro u0 u1 u2 u3 h; exact absurd h (Nat.not_lt_zero _)
  | succ n ih =>
    intro u0 u1 u2 u3 h hpre ao1 cap2 Z w hs3 hZ
    exact (fcount_walk u0 u1 u2 u3 ao1 cap2 Z w hs3 hZ (fun u0' u1' u2' u3' hc => ih u0' u1' u2' u3' (by omega) hc.2) (count_ok u0 u1 u2 u3 hpre)).mono fun _ _ ⟨r, he, hk, hb⟩ => ⟨by subst hk; exact he, hb⟩
theorem fcount_fun (u0 : List Filter) (u1 : Int) (u2 : Int) (u3 : Int) (hpre : cpre u0 u1 u2 u3) : ∀ (ao1 : Option Addr) (cap2 : Nat) (Z : Fz) (w : World) (hs3 : SlR tyFilter Z ao1 cap2 u0) (hZ : Z.on w), Calls Try.prog 49 #[.slice ao1 u0.length cap2, .int .i64 u1, .int .i64 u2, .int .i64 u3] w fun e w' => e = .returned (.int .i64 (countS u0 u1 u2 u3)) ∧ Below w.heap.size w w' := fcount_all _ u0 u1 u2 u3 (Nat.lt_succ_self _) hpre

theorem filterin_fun (u0 : List Filter) (u1 : Frame) (ao1 : Option Addr) (cap2 : Nat) (ao4 : Option Addr) (cap5 : Nat) (Z : Fz) (w : World) (hs3 : SlR tyFilter Z ao1 cap2 u0) (hs6 : SlR (tyInt .u8) Z ao4 cap5 u1.Data) (hZ : Z.on w) : Calls Try.prog 25 #[.slice ao1 u0.length cap2, .agg #[.int .i64 u1.ID, .bool u1.Long, .bool u1.Fast, .bool u1.Remote, .int .i64 u1.Size, .slice ao4 u1.Data.length cap5]] w fun e w' => ∃ (ao1001 : Option Addr) (cap1002 : Nat) (Z' : Fz), e = .returned (.tuple #[.slice ao1001 (finS u0 u1).1.length cap1002, .int .i64 (finS u0 u1).2]) ∧ Mem w.heap.size [] w Z [.own (tyInt .i64) 3 ao1001 cap1002 (finS u0 u1).1] Z' w' :=
  (filterin_walk u0 u1 ao1 cap2 ao4 cap5 Z w hs3 hs6 hZ (fin_ok u0 u1)).mono fun _ _ ⟨r, h0, h1, h2, he, hk, hm⟩ => by subst hk; exact ⟨h0, h1, h2, he, hm⟩

theorem fleast_fun (u0 : List Filter) (ao1 : Option Addr) (cap2 : Nat) (Z : Fz) (w : World) (hs3 : SlR tyFilter Z ao1 cap2 u0) (hZ : Z.on w) : Calls Try.prog 23 #[.slice ao1 u0.length cap2] w fun e w' => ∃ (ao1001 : Option Addr) (cap1002 : Nat) (Z' : Fz), e = .returned (.tuple #[.slice ao1001 (fleastS u0).1.length cap1002, .int .i64 (fleastS u0).2]) ∧ Mem w.heap.size [] w Z [.own tyFilter 28 ao1001 cap1002 (fleastS u0).1] Z' w' :=
  (fleast_walk u0 ao1 cap2 Z w hs3 hZ (fleast_ok u0)).mono fun _ _ ⟨r, h0, h1, h2, he, hk, hm⟩ => by subst hk; exact ⟨h0, h1, h2, he, hm⟩

theorem franges_fun (u0 : Int) (u1 : Int) (u2 : Bool)  (Z : Fz) (w : World)  (hZ : Z.on w) : Calls Try.prog 15 #[.int .i64 u0, .int .i64 u1, .bool u2] w fun e w' => ∃ (ao1001 : Option Addr) (cap1002 : Nat) (Z' : Fz), e = .returned (.tuple #[.slice ao1001 (rangesS u0 u1 u2).1.length cap1002, .int .i64 (rangesS u0 u1 u2).2]) ∧ Mem w.heap.size [] w Z [.own tyFilter 28 ao1001 cap1002 (rangesS u0 u1 u2).1] Z' w' :=
  (franges_walk u0 u1 u2  Z w  hZ (franges_ok u0 u1 u2)).mono fun _ _ ⟨r, h0, h1, h2, he, hk, hm⟩ => by subst hk; exact ⟨h0, h1, h2, he, hm⟩

set_option maxRecDepth 100000 in
theorem fCount_walk (u0 : List Filter) (u1 : Bool) (ao1 : Option Addr) (cap2 : Nat) (Z : Fz) (w : World) (hs3 : SlR tyFilter Z ao1 cap2 u0) (hZ : Z.on w) {K : (Int × Int) → Prop} (hp : fCount_vc u0 u1 K) : Calls Try.prog 18 #[.slice ao1 u0.length cap2, .bool u1] w fun e w' => ∃ r : Int × Int, e = .returned (.tuple #[.int .i64 r.1, .int .i64 r.2]) ∧ K r ∧ Below w.heap.size w w' := by
 refine enter0 Try.func18 rfl rfl (by kernel_rfl) ?_; intro a0 hF0; have hM0 := Mem.start w Z hZ; have hle0 := Fz.le.refl Z
 have hp4 := hp (hs3.small); clear hp
 refine sqH ?_; intro hQ5Q hQ5
 refine s1 hF0 4 (.int .i64 0) ?_; intro a6 hF7; clear hF0
 refine s1 hF7 5 (.int .i64 0) ?_; intro a8 hF9; clear hF7
 refine nlH (hQ5 _ _ ?_); clear hQ5 hQ5Q
 refine wp_seq ?_
 refine sqH ?_; intro hQ10Q hQ10
 refine s1 hF9 10 (.slice ao1 u0.length cap2) ?_; intro a11 hF12; clear hF9
 refine fcl hF12 hM0 (.int .i64 (fcheckS u0)) 26 #[.slice ao1 u0.length cap2] (nog rfl _) rfl (by kernel_rfl) (fun _ => by kernel_rfl) (fcheck_fun u0 ao1 cap2 _ _ hs3 hM0.fz) ?_; intro a13 wd15 hF14 hM16; clear hF12 hM0
 refine s1 hF14 6 (.int .i64 (fcheckS u0)) ?_; intro a17 hF18; clear hF14
 refine nlH (hQ10 _ _ ?_); clear hQ10 hQ10Q
 refine sqH ?_; intro hQ19Q hQ19
 refine s1 hF18 12 (.int .i64 (fcheckS u0)) ?_; intro a20 hF21; clear hF18
 refine s1 hF21 13 (.bool ((fcheckS u0) != 0)) ?_; intro a22 hF23; clear hF21
 refine nlH (hQ19 _ _ ?_); clear hQ19 hQ19Q
 refine cd hF23 (t := (fcheckS u0) != 0) (by kernel_rfl) (fun hb24 => ?_) (fun hb24 => ?_)
 · -- yes
  have hp25 := hp4.1 hb24; clear hp4
  refine sqH ?_; intro hQ26Q hQ26
  refine s1 hF23 14 (.int .i64 (fcheckS u0)) ?_; intro a27 hF28; clear hF23
  refine s1 hF28 4 (.int .i64 0) ?_; intro a29 hF30; clear hF28
  refine s1 hF30 5 (.int .i64 (fcheckS u0)) ?_; intro a31 hF32; clear hF30
  refine nlH (hQ26 _ _ ?_); clear hQ26 hQ26Q
  refine wp_ret ?_
  refine thr ?_
  refine rt (fn := Try.f18) (v := .tuple #[.int .i64 0, .int .i64 (fcheckS u0)]) hF32 (re2 hF32 (fn := Try.f18) rfl (by kernel_rfl) (by kernel_rfl)) ?_
  exact ⟨(0, (fcheckS u0)), rfl, hp25, hM16.below⟩
 · -- no
  have hp33 := hp4.2 hb24; clear hp4
  refine wp_skip ?_
  refine thn ?_
  refine sqH ?_; intro hQ34Q hQ34
  refine s1 hF23 7 (.slice none 0 0) ?_; intro a35 hF36; clear hF23
  refine nlH (hQ34 _ _ ?_); clear hQ34 hQ34Q
  refine wp_seq ?_
  refine sqH ?_; intro hQ37Q hQ37
  refine s1 hF36 15 (.slice ao1 u0.length cap2) ?_; intro a38 hF39; clear hF36
  refine s1 hF39 16 (.int .i64 (u0.length : Int)) ?_; intro a40 hF41; clear hF39
  refine s1 hF41 17 (.int .i64 0) ?_; intro a42 hF43; clear hF41
  refine nlH (hQ37 _ _ ?_); clear hQ37 hQ37Q
  refine wp_block ?_
  have hF44 : Fr 34 [] [⟨1, [], .bool u1⟩, ⟨7, [], .slice none 0 0⟩, ⟨15, [], .slice ao1 u0.length cap2⟩, ⟨16, [], .int .i64 (u0.length : Int)⟩, ⟨17, [], .int .i64 0⟩] a42 := hF43.region (by kernel_rfl) (by kernel_rfl); clear hF43
  have hM46 : Mem w.heap.size [] w Z [.own tyFilter 28 none 0 ([] : List Filter)] Z wd15 := hM16.addNil tyFilter 28 (by decide); clear hM16
  have hF47 : Fr 34 [] [⟨1, [], .bool u1⟩, ⟨7, [], .slice none ([] : List Filter).length 0⟩, ⟨15, [], .slice ao1 u0.length cap2⟩, ⟨16, [], .int .i64 (u0.length : Int)⟩, ⟨17, [], .int .i64 0⟩] a42 := hF44.region (by kernel_rfl) (by kernel_rfl); clear hF44
  obtain ⟨inv45, mu45, hI50, hr49⟩ := hp33
  refine lp (ι := (List Filter) × Int × (Option Addr) × Nat) (fun (s : (List Filter) × Int × (Option Addr) × Nat) => [⟨1, [], .bool u1⟩, ⟨7, [], .slice s.2.2.1 s.1.length s.2.2.2⟩, ⟨15, [], .slice ao1 u0.length cap2⟩, ⟨16, [], .int .i64 (u0.length : Int)⟩, ⟨17, [], .int .i64 s.2.1⟩]) (fun (s : (List Filter) × Int × (Option Addr) × Nat) => [.own tyFilter 28 s.2.2.1 s.2.2.2 s.1]) (fun (s : (List Filter) × Int × (Option Addr) × Nat) => Z) (fun (s : (List Filter) × Int × (Option Addr) × Nat) => inv45 s.1 s.2.1) (fun (s : (List Filter) × Int × (Option Addr) × Nat) => mu45 s.1 s.2.1) ⟨([] : List Filter), 0, none, 0⟩ hI50 (by exact hF47.region (by kernel_rfl) (by kernel_rfl)) (by exact hM46) ?_
  rintro ⟨x7, x17, aox7, capx7⟩ hI48 a52 wd53 hF54 hM55
  have hF56 : Fr 34 [] [⟨1, [], .bool u1⟩, ⟨7, [], .slice aox7 x7.length capx7⟩, ⟨15, [], .slice ao1 u0.length cap2⟩, ⟨16, [], .int .i64 (u0.length : Int)⟩, ⟨17, [], .int .i64 x17⟩] a52 := hF54; clear hF54 hF47
  have hM57 : Mem w.heap.size [] w Z [.own tyFilter 28 aox7 capx7 x7] Z wd53 := hM55; clear hM55 hM46
  have hp58 := hr49 x7 x17 hI48
  refine sqH ?_; intro hQ59Q hQ59
  refine s1 hF56 18 (.bool (decide (x17 < (u0.length : Int)))) ?_; intro a60 hF61; clear hF56
  refine nlH (hQ59 _ _ ?_); clear hQ59 hQ59Q
  refine wp_seq ?_
  refine cd hF61 (t := decide (x17 < (u0.length : Int))) (by kernel_rfl) (fun hb62 => ?_) (fun hb62 => ?_)
  · -- yes
   have hp63 := hp58.1 hb62; clear hp58
   refine wp_skip ?_
   refine thn ?_
   refine wp_seq ?_
   refine wp_block ?_
   refine sqH ?_; intro hQ64Q hQ64
   have hc65 := hp63.1; have hp66 := hp63.2; clear hp63
   refine ix hF61 (T := tyFilter) (xs := u0) hs3 x17 hc65 (k := .i64) (e := 28) (bytes := 24) (nog rfl _) rfl (by kernel_rfl) rfl (by kernel_rfl) (by kernel_rfl) (by kernel_rfl) ?_; intro b67 off68 cs69 q70 a74 hq71 hP72 hT73 hF75; clear hF61
   have hp76 := hp66 q70 hq71; clear hp66
   obtain rfl : cs69 = ([.int .i64 q70.Want, .int .i64 q70.Mask, .bool q70.Long] : List Value) := hT73
   refine z2 hF75 hM57 20 hP72 0 3 [.int .i64 q70.Want, .int .i64 q70.Mask, .bool q70.Long] rfl ?_; intro a77 hF78; clear hF75
   refine sn hF78 hM57 (fun b => .pointer (some ⟨b, 0, none⟩)) [.int .i64 0, .int .i64 0, .bool false] 28 (nog rfl _) rfl (by kernel_rfl) (by kernel_rfl) ?_; intro b79 a80 wd82 hF81 hM83; clear hF78 hM57
   refine sr hF81 hM83 0 [.int .i64 q70.Want, .int .i64 q70.Mask, .bool q70.Long] (b := b79) (off := 0) (cs := [.int .i64 0, .int .i64 0, .bool false]) (ty := 28) (u := .agg #[.int .i64 q70.Want, .int .i64 q70.Mask, .bool q70.Long]) (nog rfl _) rfl rfl (by kernel_rfl) (by kernel_rfl) (by kernel_rfl) (by kernel_rfl) (by kernel_rfl) (by kernel_rfl) (by kernel_rfl) ?_; intro wd84 hM85; clear hM83
   have hM86 : Mem w.heap.size [] w Z [.row b79 [.int .i64 q70.Want, .int .i64 q70.Mask, .bool q70.Long] 28, .own tyFilter 28 aox7 capx7 x7] Z wd84 := hM85; clear hM85
   refine nlH (hQ64 _ _ ?_); clear hQ64 hQ64Q
   refine sqH ?_; intro hQ87Q hQ87
   refine s1 hF81 21 (.pointer (some ⟨b79, 2, none⟩)) ?_; intro a88 hF89; clear hF81
   refine l1 hF89 hM86 22 0 2 (.bool q70.Long) rfl rfl ?_; intro a90 hF91; clear hF89
   refine s1 hF91 23 (.bool u1) ?_; intro a92 hF93; clear hF91
   refine s1 hF93 24 (.bool (q70.Long == u1)) ?_; intro a94 hF95; clear hF93
   refine nlH (hQ87 _ _ ?_); clear hQ87 hQ87Q
   refine cd hF95 (t := q70.Long == u1) (by kernel_rfl) (fun hb96 => ?_) (fun hb96 => ?_)
   · -- yes
    have hp97 := hp76.1 hb96; clear hp76
    refine rgH ?_; intro hQ98Q hQ98
    refine s1 hF95 25 (.slice aox7 x7.length capx7) ?_; intro a99 hF100; clear hF95
    refine l2 hF100 hM86 26 0 0 3 [.int .i64 q70.Want, .int .i64 q70.Mask, .bool q70.Long] rfl rfl ?_; intro a101 hF102; clear hF100
    refine sn hF102 hM86 (fun b => .slice (some ⟨b, 0, none⟩) 1 1) [.int .i64 q70.Want, .int .i64 q70.Mask, .bool q70.Long] 28 (nog rfl _) rfl (by kernel_rfl) (by kernel_rfl) ?_; intro b103 a104 wd106 hF105 hM107; clear hF102 hM86
    have hc108 := hp97.1; have hp109 := hp97.2; clear hp97
    refine ap hF105 hM107 2 (T := tyFilter) (xs := x7) (ys := [q70]) (ao := aox7) (cap := capx7) (ao2 := (some ⟨b103, 0, none⟩)) (cap2 := 1) (t := 22) (e := 28) (bytes := 24) (nog rfl _) rfl (by kernel_rfl) rfl (by kernel_rfl) (by kernel_rfl) (by kernel_rfl) rfl (Src.row hM107 0 rfl (RepAll.one (T := tyFilter) (x := q70) rfl)) hc108 ?_; intro ao110 cap111 a115 wd112 hnil113 hF116 hM114; clear hF105 hM107
    have hM117 : Mem w.heap.size [] w Z [.row b103 [.int .i64 q70.Want, .int .i64 q70.Mask, .bool q70.Long] 28, .row b79 [.int .i64 q70.Want, .int .i64 q70.Mask, .bool q70.Long] 28, .own tyFilter 28 ao110 cap111 (x7 ++ [q70])] Z wd112 := hM114; clear hM114
    refine s1 hF116 7 (.slice ao110 (x7 ++ [q70]).length cap111) ?_; intro a118 hF119; clear hF116
    refine nlH (hQ98 _ _ ?_); clear hQ98 hQ98Q
    refine ibn ?_
    refine thn ?_
    refine rgH ?_; intro hQ120Q hQ120
    refine s1 hF119 29 (.int .i64 (w64 (x17 + 1))) ?_; intro a121 hF122; clear hF119
    refine s1 hF122 17 (.int .i64 (w64 (x17 + 1))) ?_; intro a123 hF124; clear hF122
    refine nlH (hQ120 _ _ ?_); clear hQ120 hQ120Q
    refine rd ?_
    exact ⟨⟨x7 ++ [q70], w64 (x17 + 1), ao110, cap111⟩, hp109.1, hp109.2, (hF124.region (by kernel_rfl) (by kernel_rfl)).anyβ _ (by kernel_rfl), hM117.keep (List.Sublist.cons _ (List.Sublist.cons _ (List.Sublist.cons_cons _ (List.Sublist.slnil))))⟩
   · -- no
    have hp125 := hp76.2 hb96; clear hp76
    refine wp_skip ?_
    refine ibn ?_
    refine thn ?_
    refine rgH ?_; intro hQ126Q hQ126
    refine s1 hF95 29 (.int .i64 (w64 (x17 + 1))) ?_; intro a127 hF128; clear hF95
    refine s1 hF128 17 (.int .i64 (w64 (x17 + 1))) ?_; intro a129 hF130; clear hF128
    refine nlH (hQ126 _ _ ?_); clear hQ126 hQ126Q
    refine rd ?_
    exact ⟨⟨x7, w64 (x17 + 1), aox7, capx7⟩, hp125.1, hp125.2, (hF130.region (by kernel_rfl) (by kernel_rfl)).anyβ _ (by kernel_rfl), hM86.keep (List.Sublist.cons _ (List.Sublist.cons_cons _ (List.Sublist.slnil)))⟩
  · -- no
   have hp131 := hp58.2 hb62; clear hp58
   refine wp_exit ?_
   refine thx ?_
   refine thx ?_
   refine ibx ?_
   refine thn ?_
   refine sqH ?_; intro hQ132Q hQ132
   refine s1 hF61 30 (.slice aox7 x7.length capx7) ?_; intro a133 hF134; clear hF61
   refine s1 hF134 31 (.bool u1) ?_; intro a135 hF136; clear hF134
   refine fcl hF136 hM57 (.int .i64 (ftop u1)) 48 #[.bool u1] (nog rfl _) rfl (by kernel_rfl) (fun _ => by kernel_rfl) (ftop_fun u1 _ _ hM57.fz) ?_; intro a137 wd139 hF138 hM140; clear hF136 hM57
   obtain ⟨Z141, hle142, hM143, hs144⟩ := hM140.freeze 0 rfl
   replace hs3 := hs3.mono hle142
   replace hle0 := Fz.le.trans hle0 hle142
   have hM145 : Mem w.heap.size [] w Z [] Z141 wd139 := hM143; clear hM143
   have hc146 := hp131.1; have hp147 := hp131.2; clear hp131
   refine fcl hF138 hM145 (.int .i64 (countS x7 (ftop u1) 0 0)) 49 #[.slice aox7 x7.length capx7, .int .i64 (ftop u1), .int .i64 0, .int .i64 0] (nog rfl _) rfl (by kernel_rfl) (fun _ => by kernel_rfl) (fcount_fun x7 (ftop u1) 0 0 hc146 aox7 capx7 _ _ hs144 hM145.fz) ?_; intro a148 wd150 hF149 hM151; clear hF138 hM145
   refine s1 hF149 4 (.int .i64 (countS x7 (ftop u1) 0 0)) ?_; intro a152 hF153; clear hF149
   refine s1 hF153 5 (.int .i64 0) ?_; intro a154 hF155; clear hF153
   refine nlH (hQ132 _ _ ?_); clear hQ132 hQ132Q
   refine wp_ret ?_
   refine rt (fn := Try.f18) (v := .tuple #[.int .i64 (countS x7 (ftop u1) 0 0), .int .i64 0]) hF155 (re2 hF155 (fn := Try.f18) rfl (by kernel_rfl) (by kernel_rfl)) ?_
   exact ⟨((countS x7 (ftop u1) 0 0), 0), rfl, hp147, hM151.below⟩

end Go.Proofs.Ytkogkombalcgeaa
