/- The walks, made by program: each call does what its pure predicate says. -/
import Derived.Test.YtmbdcehmeiiaoaaDoorWH
set_option linter.unusedVariables false
set_option linter.unusedSimpArgs false
namespace Go.Proofs.YtmbdcehmeiiaoaaDoor
open Go.Sy Go.RowKit
set_option maxRecDepth 100000 in
set_option maxHeartbeats 0 in
theorem LNames_walk (u0 : Frame) (u1 : Frame) (ao1 : Option Addr) (cap2 : Nat) (ao4 : Option Addr) (cap5 : Nat) (Z : Fz) (w : World) (hs3 : SlR (tyInt .u8) Z ao1 cap2 u0.Data) (hs6 : SlR (tyInt .u8) Z ao4 cap5 u1.Data) (hZ : Z.on w) {K : Bool → Prop} (hp : LNames_vc u0 u1 K) : Calls Tryd.prog 5 #[.agg #[.int .i64 u0.ID, .bool u0.Long, .bool u0.Fast, .bool u0.Remote, .int .i64 u0.Size, .slice ao1 u0.Data.length cap2], .agg #[.int .i64 u1.ID, .bool u1.Long, .bool u1.Fast, .bool u1.Remote, .int .i64 u1.Size, .slice ao4 u1.Data.length cap5]] w fun e w' => ∃ r : Bool, e = .returned (.bool r) ∧ K r ∧ Below w.heap.size w w' := by
 refine enter0 Tryd.func5 rfl rfl (by kernel_rfl) ?_; intro a0 hF0; have hM0 := Mem.start w Z hZ; have hle0 := Fz.le.refl Z
 have hp7 := hp (hs3.small); clear hp
 have hp8 := hp7 (hs6.small); clear hp7
 refine sqH ?_; intro hQ9Q hQ9
 refine sn hF0 hM0 (fun b => .pointer (some ⟨b, 0, none⟩)) [.int .i64 u0.ID, .bool u0.Long, .bool u0.Fast, .bool u0.Remote, .int .i64 u0.Size, .slice ao1 u0.Data.length cap2] 24 (nog rfl _) rfl (by kernel_rfl) (by kernel_rfl) ?_; intro b10 a11 wd13 hF12 hM14; clear hF0 hM0
 refine sn hF12 hM14 (fun b => .pointer (some ⟨b, 0, none⟩)) [.int .i64 u1.ID, .bool u1.Long, .bool u1.Fast, .bool u1.Remote, .int .i64 u1.Size, .slice ao4 u1.Data.length cap5] 24 (nog rfl _) rfl (by kernel_rfl) (by kernel_rfl) ?_; intro b15 a16 wd18 hF17 hM19; clear hF12 hM14
 refine s1 hF17 4 (.bool false) ?_; intro a20 hF21; clear hF17
 refine nlH (hQ9 _ _ ?_); clear hQ9 hQ9Q
 refine sqH ?_; intro hQ22Q hQ22
 refine l2 hF21 hM19 10 1 0 6 [.int .i64 u0.ID, .bool u0.Long, .bool u0.Fast, .bool u0.Remote, .int .i64 u0.Size, .slice ao1 u0.Data.length cap2] rfl rfl ?_; intro a23 hF24; clear hF21
 refine fcl hF24 hM19 (.tuple #[str ((fNameS u0).1), .int .i64 ((fNameS u0).2)]) 15 #[.agg #[.int .i64 u0.ID, .bool u0.Long, .bool u0.Fast, .bool u0.Remote, .int .i64 u0.Size, .slice ao1 u0.Data.length cap2]] (nog rfl _) rfl (by kernel_rfl) (fun _ => by kernel_rfl) (fName_fun u0 ao1 cap2 _ _ hs3 hM19.fz) ?_; intro a25 wd27 hF26 hM28; clear hF24 hM19
 refine s1 hF26 9 (.tuple #[str ((fNameS u0).1), .int .i64 ((fNameS u0).2)]) ?_; intro a29 hF30; clear hF26
 refine s1 hF30 12 (str ((fNameS u0).1)) ?_; intro a31 hF32; clear hF30
 refine s1 hF32 13 (.int .i64 ((fNameS u0).2)) ?_; intro a33 hF34; clear hF32
 refine s1 hF34 5 (str ((fNameS u0).1)) ?_; intro a35 hF36; clear hF34
 refine s1 hF36 6 (.int .i64 ((fNameS u0).2)) ?_; intro a37 hF38; clear hF36
 refine nlH (hQ22 _ _ ?_); clear hQ22 hQ22Q
 refine sqH ?_; intro hQ39Q hQ39
 refine l2 hF38 hM28 15 0 0 6 [.int .i64 u1.ID, .bool u1.Long, .bool u1.Fast, .bool u1.Remote, .int .i64 u1.Size, .slice ao4 u1.Data.length cap5] rfl rfl ?_; intro a40 hF41; clear hF38
 refine fcl hF41 hM28 (.tuple #[str ((fNameS u1).1), .int .i64 ((fNameS u1).2)]) 15 #[.agg #[.int .i64 u1.ID, .bool u1.Long, .bool u1.Fast, .bool u1.Remote, .int .i64 u1.Size, .slice ao4 u1.Data.length cap5]] (nog rfl _) rfl (by kernel_rfl) (fun _ => by kernel_rfl) (fName_fun u1 ao4 cap5 _ _ hs6 hM28.fz) ?_; intro a42 wd44 hF43 hM45; clear hF41 hM28
 refine s1 hF43 14 (.tuple #[str ((fNameS u1).1), .int .i64 ((fNameS u1).2)]) ?_; intro a46 hF47; clear hF43
 refine s1 hF47 17 (str ((fNameS u1).1)) ?_; intro a48 hF49; clear hF47
 refine s1 hF49 18 (.int .i64 ((fNameS u1).2)) ?_; intro a50 hF51; clear hF49
 refine s1 hF51 7 (str ((fNameS u1).1)) ?_; intro a52 hF53; clear hF51
 refine s1 hF53 8 (.int .i64 ((fNameS u1).2)) ?_; intro a54 hF55; clear hF53
 refine nlH (hQ39 _ _ ?_); clear hQ39 hQ39Q
 refine wp_seq ?_
 have hF56 : Fr 78 [] [⟨2, [], .pointer (some ⟨b10, 0, none⟩)⟩, ⟨3, [], .pointer (some ⟨b15, 0, none⟩)⟩, ⟨5, [], str ((fNameS u0).1)⟩, ⟨6, [], .int .i64 ((fNameS u0).2)⟩, ⟨7, [], str ((fNameS u1).1)⟩, ⟨8, [], .int .i64 ((fNameS u1).2)⟩] a54 := hF55.region (by kernel_rfl) (by kernel_rfl); clear hF55
 refine sqH ?_; intro hQ57Q hQ57
 refine fcl hF56 hM45 (.bool true) 11 #[] (nog rfl _) rfl (by kernel_rfl) (fun _ => by kernel_rfl) (framed_fun  _ _ hM45.fz) ?_; intro a58 wd60 hF59 hM61; clear hF56 hM45
 refine s1 hF59 20 (.bool false) ?_; intro a62 hF63; clear hF59
 refine s1 hF63 21 (.bool false) ?_; intro a64 hF65; clear hF63
 refine st hF65 (.int .i64 ((fNameS u0).2)) (by rw [wanted_of hF65 (b := false) rfl rfl (by kernel_rfl) (by kernel_rfl)]; rfl) rfl (by kernel_rfl) (p0 hF65 (by kernel_rfl)) ?_; intro a66 hF67; clear hF65
 refine st hF67 (.bool (((fNameS u0).2) != 0)) (by rw [wanted_of hF67 (b := false) rfl rfl (by kernel_rfl) (by kernel_rfl)]; rfl) rfl (by kernel_rfl) (p0 hF67 (by kernel_rfl)) ?_; intro a68 hF69; clear hF67
 refine s1 hF69 24 (.bool (((fNameS u0).2) != 0)) ?_; intro a70 hF71; clear hF69
 refine s1 hF71 25 (.bool (((fNameS u0).2) != 0)) ?_; intro a72 hF73; clear hF71
 have hF74 := hF73.atom ((((fNameS u0).2) != 0) == false) (by kernel_rfl); clear hF73
 refine gp hF74 26 0 [] (((fNameS u0).2) != 0) (.int .i64 ((fNameS u1).2)) rfl rfl ?_; intro a75 hF76; clear hF74
 refine gp hF76 27 0 [] (((fNameS u0).2) != 0) (.bool (((fNameS u1).2) != 0)) rfl rfl ?_; intro a77 hF78; clear hF76
 refine st hF78 (.bool ((((fNameS u0).2) != 0) || (((fNameS u1).2) != 0))) (nog rfl _) rfl (by kernel_rfl) (pk_or hF78 (g := []) (m := 0) (b := ((fNameS u0).2) != 0) (v := ((fNameS u1).2) != 0) rfl (by kernel_rfl) (by kernel_rfl) (by kernel_rfl) rfl) ?_; intro a79 hF80; clear hF78
 refine nlH (hQ57 _ _ ?_); clear hQ57 hQ57Q
 refine cd hF80 (t := (((fNameS u0).2) != 0) || (((fNameS u1).2) != 0)) (by kernel_rfl) (fun hb81 => ?_) (fun hb81 => ?_)
 · -- yes
  have hp82 := hp8.1 hb81; clear hp8
  have hF83 : Fr 78 [] [] a79 := hF80.region (by kernel_rfl) (by kernel_rfl); clear hF80
  refine sqH ?_; intro hQ84Q hQ84
  refine fcl hF83 hM61 (.bool true) 11 #[] (nog rfl _) rfl (by kernel_rfl) (fun _ => by kernel_rfl) (framed_fun  _ _ hM61.fz) ?_; intro a85 wd87 hF86 hM88; clear hF83 hM61
  refine s1 hF86 4 (.bool true) ?_; intro a89 hF90; clear hF86
  refine nlH (hQ84 _ _ ?_); clear hQ84 hQ84Q
  refine wp_ret ?_
  refine thr ?_
  refine rt (fn := Tryd.f5) (v := .bool true) hF90 (re1 hF90 (fn := Tryd.f5) rfl (by kernel_rfl)) ?_
  exact ⟨true, rfl, hp82, hM88.below⟩
 · -- no
  have hp91 := hp8.2 hb81; clear hp8
  refine wp_skip ?_
  refine thn ?_
  refine wp_seq ?_
  have hF92 : Fr 78 [] [⟨2, [], .pointer (some ⟨b10, 0, none⟩)⟩, ⟨3, [], .pointer (some ⟨b15, 0, none⟩)⟩, ⟨5, [], str ((fNameS u0).1)⟩, ⟨7, [], str ((fNameS u1).1)⟩] a79 := hF80.region (by kernel_rfl) (by kernel_rfl); clear hF80
  refine sqH ?_; intro hQ93Q hQ93
  refine s1 hF92 30 (.pointer (some ⟨b10, 1, none⟩)) ?_; intro a94 hF95; clear hF92
  refine l1 hF95 hM61 31 1 1 (.bool u0.Long) rfl rfl ?_; intro a96 hF97; clear hF95
  refine s1 hF97 32 (.pointer (some ⟨b15, 1, none⟩)) ?_; intro a98 hF99; clear hF97
  refine l1 hF99 hM61 33 0 1 (.bool u1.Long) rfl rfl ?_; intro a100 hF101; clear hF99
  refine s1 hF101 34 (.bool (u0.Long == u1.Long)) ?_; intro a102 hF103; clear hF101
  refine nlH (hQ93 _ _ ?_); clear hQ93 hQ93Q
  refine cd hF103 (t := u0.Long == u1.Long) (by kernel_rfl) (fun hb104 => ?_) (fun hb104 => ?_)
  · -- yes
   have hp105 := hp91.1 hb104; clear hp91
   refine sqH ?_; intro hQ106Q hQ106
   refine s1 hF103 35 (str ((fNameS u0).1)) ?_; intro a107 hF108; clear hF103
   refine s1 hF108 36 (str ((fNameS u1).1)) ?_; intro a109 hF110; clear hF108
   refine st hF110 (.bool (((fNameS u0).1) == ((fNameS u1).1))) (nog rfl _) rfl (by kernel_rfl) (strcmp_run hF110 (g := []) (op := .eql) rfl (by kernel_rfl) (by kernel_rfl) (by decide) rfl) ?_; intro a111 hF112; clear hF110
   refine s1 hF112 38 (.pointer (some ⟨b10, 0, none⟩)) ?_; intro a113 hF114; clear hF112
   refine l1 hF114 hM61 39 1 0 (.int .i64 u0.ID) rfl rfl ?_; intro a115 hF116; clear hF114
   refine s1 hF116 40 (.pointer (some ⟨b15, 0, none⟩)) ?_; intro a117 hF118; clear hF116
   refine l1 hF118 hM61 41 0 0 (.int .i64 u1.ID) rfl rfl ?_; intro a119 hF120; clear hF118
   refine s1 hF120 42 (.bool (u0.ID == u1.ID)) ?_; intro a121 hF122; clear hF120
   refine s1 hF122 43 (.bool (u0.ID == u1.ID)) ?_; intro a123 hF124; clear hF122
   have hF125 := hF124.atom ((u0.ID == u1.ID) == true) (by kernel_rfl); clear hF124
   refine gp hF125 44 0 [] (u0.ID == u1.ID) (.pointer (some ⟨b10, 3, none⟩)) rfl rfl ?_; intro a126 hF127; clear hF125
   refine gd hF127 (.bool u0.Remote) (m := 0) (cj := []) (bj := u0.ID == u1.ID) rfl rfl (by kernel_rfl) rfl (by kernel_rfl) (by kernel_rfl) (by kernel_rfl) (fun hg => ld hF127 hM61 1 (g := [0]) (b := b10) (off := 3) (cs := [.int .i64 u0.ID, .bool u0.Long, .bool u0.Fast, .bool u0.Remote, .int .i64 u0.Size, .slice ao1 u0.Data.length cap2]) (ty := 24) rfl (by kernel_rfl) (by kernel_rfl) (by kernel_rfl) (by kernel_rfl) hg) ?_; intro a128 hF129; clear hF127
   refine gp hF129 46 0 [] (u0.ID == u1.ID) (.pointer (some ⟨b15, 3, none⟩)) rfl rfl ?_; intro a130 hF131; clear hF129
   refine gd hF131 (.bool u1.Remote) (m := 0) (cj := []) (bj := u0.ID == u1.ID) rfl rfl (by kernel_rfl) rfl (by kernel_rfl) (by kernel_rfl) (by kernel_rfl) (fun hg => ld hF131 hM61 0 (g := [0]) (b := b15) (off := 3) (cs := [.int .i64 u1.ID, .bool u1.Long, .bool u1.Fast, .bool u1.Remote, .int .i64 u1.Size, .slice ao4 u1.Data.length cap5]) (ty := 24) rfl (by kernel_rfl) (by kernel_rfl) (by kernel_rfl) (by kernel_rfl) hg) ?_; intro a132 hF133; clear hF131
   refine gp hF133 48 0 [] (u0.ID == u1.ID) (.bool (u0.Remote == u1.Remote)) rfl rfl ?_; intro a134 hF135; clear hF133
   refine st hF135 (.bool ((u0.ID == u1.ID) && (u0.Remote == u1.Remote))) (nog rfl _) rfl (by kernel_rfl) (pk_and hF135 (g := []) (m := 0) (b := u0.ID == u1.ID) (v := u0.Remote == u1.Remote) rfl (by kernel_rfl) (by kernel_rfl) (by kernel_rfl) rfl) ?_; intro a136 hF137; clear hF135
   refine s1 hF137 50 (.bool ((((fNameS u0).1) == ((fNameS u1).1)) == ((u0.ID == u1.ID) && (u0.Remote == u1.Remote)))) ?_; intro a138 hF139; clear hF137
   refine s1 hF139 51 (.bool ((((fNameS u0).1) == ((fNameS u1).1)) == ((u0.ID == u1.ID) && (u0.Remote == u1.Remote)))) ?_; intro a140 hF141; clear hF139
   have hF142 := hF141.atom (((((fNameS u0).1) == ((fNameS u1).1)) == ((u0.ID == u1.ID) && (u0.Remote == u1.Remote))) == true) (by kernel_rfl); clear hF141
   refine gp hF142 52 1 [] ((((fNameS u0).1) == ((fNameS u1).1)) == ((u0.ID == u1.ID) && (u0.Remote == u1.Remote))) (str ((fNameS u0).1)) rfl rfl ?_; intro a143 hF144; clear hF142
   refine gp hF144 53 1 [] ((((fNameS u0).1) == ((fNameS u1).1)) == ((u0.ID == u1.ID) && (u0.Remote == u1.Remote))) (str ((fNameS u1).1)) rfl rfl ?_; intro a145 hF146; clear hF144
   refine gd hF146 (.bool (strc .gtr ((fNameS u0).1) ((fNameS u1).1))) (m := 1) (cj := []) (bj := (((fNameS u0).1) == ((fNameS u1).1)) == ((u0.ID == u1.ID) && (u0.Remote == u1.Remote))) rfl rfl (by kernel_rfl) rfl (by kernel_rfl) (by kernel_rfl) (by kernel_rfl) (fun hg => strcmp_run hF146 (g := [1]) (op := .gtr) rfl (by kernel_rfl) (by kernel_rfl) (by decide) hg) ?_; intro a147 hF148; clear hF146
   refine gp hF148 55 1 [] ((((fNameS u0).1) == ((fNameS u1).1)) == ((u0.ID == u1.ID) && (u0.Remote == u1.Remote))) (.bool (strc .gtr ((fNameS u0).1) ((fNameS u1).1))) rfl rfl ?_; intro a149 hF150; clear hF148
   have hF151 := hF150.atom ((strc .gtr ((fNameS u0).1) ((fNameS u1).1)) == false) (by kernel_rfl); clear hF150
   refine gp hF151 56 2 [1] (strc .gtr ((fNameS u0).1) ((fNameS u1).1)) (.pointer (some ⟨b10, 0, none⟩)) rfl rfl ?_; intro a152 hF153; clear hF151
   refine gd hF153 (.int .i64 u0.ID) (m := 2) (cj := [1]) (bj := strc .gtr ((fNameS u0).1) ((fNameS u1).1)) rfl rfl (by kernel_rfl) rfl (by kernel_rfl) (by kernel_rfl) (by kernel_rfl) (fun hg => ld hF153 hM61 1 (g := [2, 1]) (b := b10) (off := 0) (cs := [.int .i64 u0.ID, .bool u0.Long, .bool u0.Fast, .bool u0.Remote, .int .i64 u0.Size, .slice ao1 u0.Data.length cap2]) (ty := 24) rfl (by kernel_rfl) (by kernel_rfl) (by kernel_rfl) (by kernel_rfl) hg) ?_; intro a154 hF155; clear hF153
   refine gp hF155 58 2 [1] (strc .gtr ((fNameS u0).1) ((fNameS u1).1)) (.pointer (some ⟨b15, 0, none⟩)) rfl rfl ?_; intro a156 hF157; clear hF155
   refine gd hF157 (.int .i64 u1.ID) (m := 2) (cj := [1]) (bj := strc .gtr ((fNameS u0).1) ((fNameS u1).1)) rfl rfl (by kernel_rfl) rfl (by kernel_rfl) (by kernel_rfl) (by kernel_rfl) (fun hg => ld hF157 hM61 0 (g := [2, 1]) (b := b15) (off := 0) (cs := [.int .i64 u1.ID, .bool u1.Long, .bool u1.Fast, .bool u1.Remote, .int .i64 u1.Size, .slice ao4 u1.Data.length cap5]) (ty := 24) rfl (by kernel_rfl) (by kernel_rfl) (by kernel_rfl) (by kernel_rfl) hg) ?_; intro a158 hF159; clear hF157
   refine gp hF159 60 2 [1] (strc .gtr ((fNameS u0).1) ((fNameS u1).1)) (.bool (decide (u0.ID ≤ u1.ID))) rfl rfl ?_; intro a160 hF161; clear hF159
   refine gd hF161 (.bool ((strc .gtr ((fNameS u0).1) ((fNameS u1).1)) || (decide (u0.ID ≤ u1.ID)))) (m := 1) (cj := []) (bj := (((fNameS u0).1) == ((fNameS u1).1)) == ((u0.ID == u1.ID) && (u0.Remote == u1.Remote))) rfl rfl (by kernel_rfl) rfl (by kernel_rfl) (by kernel_rfl) (by kernel_rfl) (fun hg => pk_or hF161 (g := [1]) (m := 2) (b := strc .gtr ((fNameS u0).1) ((fNameS u1).1)) (v := decide (u0.ID ≤ u1.ID)) rfl (by kernel_rfl) (by kernel_rfl) (by kernel_rfl) hg) ?_; intro a162 hF163; clear hF161
   refine st hF163 (.bool (((((fNameS u0).1) == ((fNameS u1).1)) == ((u0.ID == u1.ID) && (u0.Remote == u1.Remote))) && ((strc .gtr ((fNameS u0).1) ((fNameS u1).1)) || (decide (u0.ID ≤ u1.ID))))) (nog rfl _) rfl (by kernel_rfl) (pk_and hF163 (g := []) (m := 1) (b := (((fNameS u0).1) == ((fNameS u1).1)) == ((u0.ID == u1.ID) && (u0.Remote == u1.Remote))) (v := (strc .gtr ((fNameS u0).1) ((fNameS u1).1)) || (decide (u0.ID ≤ u1.ID))) rfl (by kernel_rfl) (by kernel_rfl) (by kernel_rfl) rfl) ?_; intro a164 hF165; clear hF163
   refine s1 hF165 4 (.bool (((((fNameS u0).1) == ((fNameS u1).1)) == ((u0.ID == u1.ID) && (u0.Remote == u1.Remote))) && ((strc .gtr ((fNameS u0).1) ((fNameS u1).1)) || (decide (u0.ID ≤ u1.ID))))) ?_; intro a166 hF167; clear hF165
   refine nlH (hQ106 _ _ ?_); clear hQ106 hQ106Q
   refine wp_ret ?_
   refine thr ?_
   refine rt (fn := Tryd.f5) (v := .bool (((((fNameS u0).1) == ((fNameS u1).1)) == ((u0.ID == u1.ID) && (u0.Remote == u1.Remote))) && ((strc .gtr ((fNameS u0).1) ((fNameS u1).1)) || (decide (u0.ID ≤ u1.ID))))) hF167 (re1 hF167 (fn := Tryd.f5) rfl (by kernel_rfl)) ?_
   exact ⟨((((fNameS u0).1) == ((fNameS u1).1)) == ((u0.ID == u1.ID) && (u0.Remote == u1.Remote))) && ((strc .gtr ((fNameS u0).1) ((fNameS u1).1)) || (decide (u0.ID ≤ u1.ID))), rfl, hp105, hM61.below⟩
  · -- no
   have hp168 := hp91.2 hb104; clear hp91
   refine wp_skip ?_
   refine thn ?_
   refine sqH ?_; intro hQ169Q hQ169
   refine s1 hF103 63 (str ((fNameS u0).1)) ?_; intro a170 hF171; clear hF103
   refine s1 hF171 64 (str ((fNameS u1).1)) ?_; intro a172 hF173; clear hF171
   refine st hF173 (.bool (((fNameS u0).1) != ((fNameS u1).1))) (nog rfl _) rfl (by kernel_rfl) (strcmp_run hF173 (g := []) (op := .neq) rfl (by kernel_rfl) (by kernel_rfl) (by decide) rfl) ?_; intro a174 hF175; clear hF173
   refine s1 hF175 66 (.bool (((fNameS u0).1) != ((fNameS u1).1))) ?_; intro a176 hF177; clear hF175
   have hF178 := hF177.atom ((((fNameS u0).1) != ((fNameS u1).1)) == true) (by kernel_rfl); clear hF177
   refine gp hF178 67 0 [] (((fNameS u0).1) != ((fNameS u1).1)) (str ((fNameS u0).1)) rfl rfl ?_; intro a179 hF180; clear hF178
   refine gp hF180 68 0 [] (((fNameS u0).1) != ((fNameS u1).1)) (str ((fNameS u1).1)) rfl rfl ?_; intro a181 hF182; clear hF180
   refine gcl hF182 hM61 (.bool (hasprefix ((fNameS u0).1) ((fNameS u1).1))) 14 #[str ((fNameS u0).1), str ((fNameS u1).1)] (m := 0) (cj := []) (bj := ((fNameS u0).1) != ((fNameS u1).1)) rfl rfl (by kernel_rfl) rfl (by kernel_rfl) (by kernel_rfl) (by kernel_rfl) (fun _ => by kernel_rfl) (fun hg => hasprefix_fun ((fNameS u0).1) ((fNameS u1).1) _ _ hM61.fz) ?_; intro a183 wd185 hF184 hM186; clear hF182 hM61
   refine gp hF184 70 0 [] (((fNameS u0).1) != ((fNameS u1).1)) (.bool (!(hasprefix ((fNameS u0).1) ((fNameS u1).1)))) rfl rfl ?_; intro a187 hF188; clear hF184
   refine st hF188 (.bool ((((fNameS u0).1) != ((fNameS u1).1)) && (!(hasprefix ((fNameS u0).1) ((fNameS u1).1))))) (nog rfl _) rfl (by kernel_rfl) (pk_and hF188 (g := []) (m := 0) (b := ((fNameS u0).1) != ((fNameS u1).1)) (v := !(hasprefix ((fNameS u0).1) ((fNameS u1).1))) rfl (by kernel_rfl) (by kernel_rfl) (by kernel_rfl) rfl) ?_; intro a189 hF190; clear hF188
   refine s1 hF190 72 (.bool ((((fNameS u0).1) != ((fNameS u1).1)) && (!(hasprefix ((fNameS u0).1) ((fNameS u1).1))))) ?_; intro a191 hF192; clear hF190
   have hF193 := hF192.atom (((((fNameS u0).1) != ((fNameS u1).1)) && (!(hasprefix ((fNameS u0).1) ((fNameS u1).1)))) == true) (by kernel_rfl); clear hF192
   refine gp hF193 73 1 [] ((((fNameS u0).1) != ((fNameS u1).1)) && (!(hasprefix ((fNameS u0).1) ((fNameS u1).1)))) (str ((fNameS u1).1)) rfl rfl ?_; intro a194 hF195; clear hF193
   refine gp hF195 74 1 [] ((((fNameS u0).1) != ((fNameS u1).1)) && (!(hasprefix ((fNameS u0).1) ((fNameS u1).1)))) (str ((fNameS u0).1)) rfl rfl ?_; intro a196 hF197; clear hF195
   refine gcl hF197 hM186 (.bool (hasprefix ((fNameS u1).1) ((fNameS u0).1))) 14 #[str ((fNameS u1).1), str ((fNameS u0).1)] (m := 1) (cj := []) (bj := (((fNameS u0).1) != ((fNameS u1).1)) && (!(hasprefix ((fNameS u0).1) ((fNameS u1).1)))) rfl rfl (by kernel_rfl) rfl (by kernel_rfl) (by kernel_rfl) (by kernel_rfl) (fun _ => by kernel_rfl) (fun hg => hasprefix_fun ((fNameS u1).1) ((fNameS u0).1) _ _ hM186.fz) ?_; intro a198 wd200 hF199 hM201; clear hF197 hM186
   refine gp hF199 76 1 [] ((((fNameS u0).1) != ((fNameS u1).1)) && (!(hasprefix ((fNameS u0).1) ((fNameS u1).1)))) (.bool (!(hasprefix ((fNameS u1).1) ((fNameS u0).1)))) rfl rfl ?_; intro a202 hF203; clear hF199
   refine st hF203 (.bool (((((fNameS u0).1) != ((fNameS u1).1)) && (!(hasprefix ((fNameS u0).1) ((fNameS u1).1)))) && (!(hasprefix ((fNameS u1).1) ((fNameS u0).1))))) (nog rfl _) rfl (by kernel_rfl) (pk_and hF203 (g := []) (m := 1) (b := (((fNameS u0).1) != ((fNameS u1).1)) && (!(hasprefix ((fNameS u0).1) ((fNameS u1).1)))) (v := !(hasprefix ((fNameS u1).1) ((fNameS u0).1))) rfl (by kernel_rfl) (by kernel_rfl) (by kernel_rfl) rfl) ?_; intro a204 hF205; clear hF203
   refine s1 hF205 4 (.bool (((((fNameS u0).1) != ((fNameS u1).1)) && (!(hasprefix ((fNameS u0).1) ((fNameS u1).1)))) && (!(hasprefix ((fNameS u1).1) ((fNameS u0).1))))) ?_; intro a206 hF207; clear hF205
   refine nlH (hQ169 _ _ ?_); clear hQ169 hQ169Q
   refine wp_ret ?_
   refine rt (fn := Tryd.f5) (v := .bool (((((fNameS u0).1) != ((fNameS u1).1)) && (!(hasprefix ((fNameS u0).1) ((fNameS u1).1)))) && (!(hasprefix ((fNameS u1).1) ((fNameS u0).1))))) hF207 (re1 hF207 (fn := Tryd.f5) rfl (by kernel_rfl)) ?_
   exact ⟨((((fNameS u0).1) != ((fNameS u1).1)) && (!(hasprefix ((fNameS u0).1) ((fNameS u1).1)))) && (!(hasprefix ((fNameS u1).1) ((fNameS u0).1))), rfl, hp168, hM201.below⟩

end Go.Proofs.YtmbdcehmeiiaoaaDoor
