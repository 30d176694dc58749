/- The walks, made by program: each call does what its pure predicate says. -/
import Derived.Test.YtginlmgkimfjmaaPDt
import Derived.Test.YtginlmgkimfjmaaWDs
set_option linter.unusedVariables false
set_option linter.unusedSimpArgs false
namespace Go.Proofs.Ytginlmgkimfjmaa
open Go.Sy Go.RowKit
theorem ieq_fun (u0 : List Int) (u1 : List Int) (ao1 : Option Addr) (cap2 : Nat) (ao4 : Option Addr) (cap5 : Nat) (Z : Fz) (w : World) (hs3 : SlR (tyInt .i64) Z ao1 cap2 u0) (hs6 : SlR (tyInt .i64) Z ao4 cap5 u1) (hZ : Z.on w) : Calls Try.prog 22 #[.slice ao1 u0.length cap2, .slice ao4 u1.length cap5] w fun e w' => e = .returned (.bool (ieqS u0 u1)) ∧ Below w.heap.size w w' :=
  (ieq_walk u0 u1 ao1 cap2 ao4 cap5 Z w hs3 hs6 hZ (ieq_ok u0 u1)).mono fun _ _ ⟨r, he, hk, hb⟩ => ⟨by subst hk; exact he, hb⟩

theorem sleq_fun (u0 : List Slot) (u1 : List Slot) (ao1 : Option Addr) (cap2 : Nat) (ao4 : Option Addr) (cap5 : Nat) (Z : Fz) (w : World) (hs3 : SlR tySlot Z ao1 cap2 u0) (hs6 : SlR tySlot Z ao4 cap5 u1) (hZ : Z.on w) : Calls Try.prog 56 #[.slice ao1 u0.length cap2, .slice ao4 u1.length cap5] w fun e w' => e = .returned (.bool (sleqS u0 u1)) ∧ Below w.heap.size w w' :=
  (sleq_walk u0 u1 ao1 cap2 ao4 cap5 Z w hs3 hs6 hZ (sleq_ok u0 u1)).mono fun _ _ ⟨r, he, hk, hb⟩ => ⟨by subst hk; exact he, hb⟩

theorem swaits_fun (u0 : List Task) (u1 : List Slot) (hpre : u0.length * 8 ≤ 140737488355328) (ao1 : Option Addr) (cap2 : Nat) (ao4 : Option Addr) (cap5 : Nat) (Z : Fz) (w : World) (hs3 : SlR tyTask Z ao1 cap2 u0) (hs6 : SlR tySlot Z ao4 cap5 u1) (hZ : Z.on w) : Calls Try.prog 20 #[.slice ao1 u0.length cap2, .slice ao4 u1.length cap5] w fun e w' => ∃ (ao1001 : Option Addr) (cap1002 : Nat) (Z' : Fz), e = .returned (.tuple #[.slice ao1001 (swaitsS u0 u1).1.length cap1002, .int .i64 (swaitsS u0 u1).2]) ∧ Mem w.heap.size [] w Z [.own (tyInt .i64) 3 ao1001 cap1002 (swaitsS u0 u1).1] Z' w' :=
  (swaits_walk u0 u1 ao1 cap2 ao4 cap5 Z w hs3 hs6 hZ (swaits_ok u0 u1 hpre)).mono fun _ _ ⟨r, h0, h1, h2, he, hk, hm⟩ => by subst hk; exact ⟨h0, h1, h2, he, hm⟩

set_option maxRecDepth 100000 in
set_option maxHeartbeats 0 in
theorem chkT_walk (u0 : List Task) (ao1 : Option Addr) (cap2 : Nat) (Z : Fz) (w : World) (hs3 : SlR tyTask Z ao1 cap2 u0) (hZ : Z.on w) {K : Int → Prop} (hp : chkT_vc u0 K) : Calls Try.prog 21 #[.slice ao1 u0.length cap2] w fun e w' => ∃ r : Int, e = .returned (.int .i64 r) ∧ K r ∧ Below w.heap.size w w' := by
 refine enter0 Try.func21 rfl rfl (by kernel_rfl) ?_; intro a0 hF0; have hM0 := Mem.start w Z hZ; have hle0 := Fz.le.refl Z
 have hp4 := hp (hs3.small); clear hp
 refine sqH ?_; intro hQ5Q hQ5
 refine s1 hF0 2 (.int .i64 0) ?_; intro a6 hF7; clear hF0
 refine nlH (hQ5 _ _ ?_); clear hQ5 hQ5Q
 refine wp_seq ?_
 refine sqH ?_; intro hQ8Q hQ8
 refine s1 hF7 6 (.slice ao1 u0.length cap2) ?_; intro a9 hF10; clear hF7
 refine s1 hF10 7 (.int .i64 (u0.length : Int)) ?_; intro a11 hF12; clear hF10
 refine s1 hF12 8 (.bool (decide ((u0.length : Int) > 20))) ?_; intro a13 hF14; clear hF12
 refine nlH (hQ8 _ _ ?_); clear hQ8 hQ8Q
 refine cd hF14 (t := decide ((u0.length : Int) > 20)) (by kernel_rfl) (fun hb15 => ?_) (fun hb15 => ?_)
 · -- yes
  have hp16 := hp4.1 hb15; clear hp4
  refine sqH ?_; intro hQ17Q hQ17
  refine s1 hF14 2 (.int .i64 2) ?_; intro a18 hF19; clear hF14
  refine nlH (hQ17 _ _ ?_); clear hQ17 hQ17Q
  refine wp_ret ?_
  refine thr ?_
  refine rt (fn := Try.f21) (v := .int .i64 2) hF19 (re1 hF19 (fn := Try.f21) rfl (by kernel_rfl)) ?_
  exact ⟨2, rfl, hp16, hM0.below⟩
 · -- no
  have hp20 := hp4.2 hb15; clear hp4
  refine wp_skip ?_
  refine thn ?_
  refine sqH ?_; intro hQ21Q hQ21
  refine s1 hF14 3 (.func (.func 57) #[] #[]) ?_; intro a22 hF23; clear hF14
  refine nlH (hQ21 _ _ ?_); clear hQ21 hQ21Q
  refine wp_seq ?_
  refine sqH ?_; intro hQ24Q hQ24
  refine s1 hF23 9 (.slice ao1 u0.length cap2) ?_; intro a25 hF26; clear hF23
  refine s1 hF26 10 (.int .i64 (u0.length : Int)) ?_; intro a27 hF28; clear hF26
  refine s1 hF28 11 (.int .i64 0) ?_; intro a29 hF30; clear hF28
  refine nlH (hQ24 _ _ ?_); clear hQ24 hQ24Q
  refine wp_block ?_
  have hF31 : Fr 66 [] [⟨0, [], .slice ao1 u0.length cap2⟩, ⟨3, [], .func (.func 57) #[] #[]⟩, ⟨9, [], .slice ao1 u0.length cap2⟩, ⟨10, [], .int .i64 (u0.length : Int)⟩, ⟨11, [], .int .i64 0⟩] a29 := hF30.region (by kernel_rfl) (by kernel_rfl); clear hF30
  have hF33 : Fr 66 [] [⟨0, [], .slice ao1 u0.length cap2⟩, ⟨3, [], .func (.func 57) #[] #[]⟩, ⟨9, [], .slice ao1 u0.length cap2⟩, ⟨10, [], .int .i64 (u0.length : Int)⟩, ⟨11, [], .int .i64 0⟩] a29 := hF31.region (by kernel_rfl) (by kernel_rfl); clear hF31
  obtain ⟨inv32, mu32, hI36, hr35⟩ := hp20
  refine lp (ι := Int) (fun (s : Int) => [⟨0, [], .slice ao1 u0.length cap2⟩, ⟨3, [], .func (.func 57) #[] #[]⟩, ⟨9, [], .slice ao1 u0.length cap2⟩, ⟨10, [], .int .i64 (u0.length : Int)⟩, ⟨11, [], .int .i64 s⟩]) (fun (s : Int) => []) (fun (s : Int) => Z) (fun (s : Int) => inv32 s) (fun (s : Int) => mu32 s) 0 hI36 (by exact hF33.region (by kernel_rfl) (by kernel_rfl)) (by exact hM0) ?_
  rintro x11 hI34 a38 wd39 hF40 hM41
  have hF42 : Fr 66 [] [⟨0, [], .slice ao1 u0.length cap2⟩, ⟨3, [], .func (.func 57) #[] #[]⟩, ⟨9, [], .slice ao1 u0.length cap2⟩, ⟨10, [], .int .i64 (u0.length : Int)⟩, ⟨11, [], .int .i64 x11⟩] a38 := hF40; clear hF40 hF33
  have hM43 : Mem w.heap.size [] w Z [] Z wd39 := hM41; clear hM41 hM0
  have hp44 := hr35 x11 hI34
  refine sqH ?_; intro hQ45Q hQ45
  refine s1 hF42 12 (.bool (decide (x11 < (u0.length : Int)))) ?_; intro a46 hF47; clear hF42
  refine nlH (hQ45 _ _ ?_); clear hQ45 hQ45Q
  refine wp_seq ?_
  refine cd hF47 (t := decide (x11 < (u0.length : Int))) (by kernel_rfl) (fun hb48 => ?_) (fun hb48 => ?_)
  · -- yes
   have hp49 := hp44.1 hb48; clear hp44
   refine wp_skip ?_
   refine thn ?_
   have hF50 : Fr 66 [] [⟨0, [], .slice ao1 u0.length cap2⟩, ⟨3, [], .func (.func 57) #[] #[]⟩, ⟨9, [], .slice ao1 u0.length cap2⟩, ⟨10, [], .int .i64 (u0.length : Int)⟩, ⟨11, [], .int .i64 x11⟩] a46 := hF47.region (by kernel_rfl) (by kernel_rfl); clear hF47
   have hF52 : Fr 66 [] [⟨0, [], .slice ao1 u0.length cap2⟩, ⟨3, [], .func (.func 57) #[] #[]⟩, ⟨9, [], .slice ao1 u0.length cap2⟩, ⟨10, [], .int .i64 (u0.length : Int)⟩, ⟨11, [], .int .i64 x11⟩] a46 := hF50.region (by kernel_rfl) (by kernel_rfl); clear hF50
   obtain ⟨inv51, hp53, hp54⟩ := hp49
   refine wp_seq_k fun KJ55 hKJ56 => ?_
   have hJ57 : ∀ (_u : Unit), inv51 → ∀ a1 w1, Fr 66 [] [⟨0, [], .slice ao1 u0.length cap2⟩, ⟨3, [], .func (.func 57) #[] #[]⟩, ⟨9, [], .slice ao1 u0.length cap2⟩, ⟨10, [], .int .i64 (u0.length : Int)⟩, ⟨11, [], .int .i64 x11⟩] a1 → Mem w.heap.size [] w Z [] Z w1 → KJ55 a1 w1 := by
    rintro _u hI62 a58 wd59 hF60 hM61; clear hF52 hM43
    refine hKJ56 _ _ ?_; clear hKJ56
    have hp63 := hp54  hI62
    refine rgH ?_; intro hQ64Q hQ64
    refine s1 hF60 65 (.int .i64 (w64 (x11 + 1))) ?_; intro a65 hF66; clear hF60
    refine s1 hF66 11 (.int .i64 (w64 (x11 + 1))) ?_; intro a67 hF68; clear hF66
    refine nlH (hQ64 _ _ ?_); clear hQ64 hQ64Q
    refine rd ?_
    exact ⟨w64 (x11 + 1), hp63.1, hp63.2, (hF68.region (by kernel_rfl) (by kernel_rfl)).anyβ _ (by kernel_rfl), hM61.keep (List.Sublist.slnil)⟩
   refine wp_block ?_
   refine sqH ?_; intro hQ69Q hQ69
   refine s1 hF52 13 (.int .i64 x11) ?_; intro a70 hF71; clear hF52
   have hc72 := hp53.1; have hp73 := hp53.2; clear hp53
   refine ix hF71 (T := tyTask) (xs := u0) hs3 x11 hc72 (k := .i64) (e := 34) (bytes := 40) (nog rfl _) rfl (by kernel_rfl) rfl (by kernel_rfl) (by kernel_rfl) (by kernel_rfl) ?_; intro b74 off75 cs76 q77 a81 hq78 hP79 hT80 hF82; clear hF71
   have hp83 := hp73 q77 hq78; clear hp73
   obtain rfl : cs76 = ([.int .i64 q77.ID, .int .i64 q77.Bytes, .int .i64 q77.Every, .int .i64 q77.Late, .int .i64 q77.Jitter] : List Value) := hT80
   refine z2 hF82 hM43 15 hP79 0 5 [.int .i64 q77.ID, .int .i64 q77.Bytes, .int .i64 q77.Every, .int .i64 q77.Late, .int .i64 q77.Jitter] rfl ?_; intro a84 hF85; clear hF82
   refine sn hF85 hM43 (fun b => .pointer (some ⟨b, 0, none⟩)) [.int .i64 0, .int .i64 0, .int .i64 0, .int .i64 0, .int .i64 0] 34 (nog rfl _) rfl (by kernel_rfl) (by kernel_rfl) ?_; intro b86 a87 wd89 hF88 hM90; clear hF85 hM43
   refine s1 hF88 4 (.int .i64 x11) ?_; intro a91 hF92; clear hF88
   refine sr hF92 hM90 0 [.int .i64 q77.ID, .int .i64 q77.Bytes, .int .i64 q77.Every, .int .i64 q77.Late, .int .i64 q77.Jitter] (b := b86) (off := 0) (cs := [.int .i64 0, .int .i64 0, .int .i64 0, .int .i64 0, .int .i64 0]) (ty := 34) (u := .agg #[.int .i64 q77.ID, .int .i64 q77.Bytes, .int .i64 q77.Every, .int .i64 q77.Late, .int .i64 q77.Jitter]) (nog rfl _) rfl rfl (by kernel_rfl) (by kernel_rfl) (by kernel_rfl) (by kernel_rfl) (by kernel_rfl) (by kernel_rfl) (by kernel_rfl) ?_; intro wd93 hM94; clear hM90
   have hM95 : Mem w.heap.size [] w Z [.row b86 [.int .i64 q77.ID, .int .i64 q77.Bytes, .int .i64 q77.Every, .int .i64 q77.Late, .int .i64 q77.Jitter] 34] Z wd93 := hM94; clear hM94
   refine nlH (hQ69 _ _ ?_); clear hQ69 hQ69Q
   refine wp_seq ?_
   refine sqH ?_; intro hQ96Q hQ96
   refine s1 hF92 16 (.func (.func 57) #[] #[]) ?_; intro a97 hF98; clear hF92
   refine s1 hF98 17 (.pointer (some ⟨b86, 0, none⟩)) ?_; intro a99 hF100; clear hF98
   refine l1 hF100 hM95 18 0 0 (.int .i64 q77.ID) rfl rfl ?_; intro a101 hF102; clear hF100
   refine fcl hF102 hM95 (.bool (ctin q77.ID 0 2047)) 57 #[.int .i64 q77.ID, .int .i64 0, .int .i64 2047] (nog rfl _) rfl (by kernel_rfl) (fun _ => by kernel_rfl) (ctin_fun q77.ID 0 2047 _ _ hM95.fz) ?_; intro a103 wd105 hF104 hM106; clear hF102 hM95
   refine s1 hF104 20 (.bool (!(ctin q77.ID 0 2047))) ?_; intro a107 hF108; clear hF104
   refine s1 hF108 21 (.bool (!(ctin q77.ID 0 2047))) ?_; intro a109 hF110; clear hF108
   have hF111 := hF110.atom ((!(ctin q77.ID 0 2047)) == false) (by kernel_rfl); clear hF110
   refine gp hF111 22 0 [] (!(ctin q77.ID 0 2047)) (.func (.func 57) #[] #[]) rfl rfl ?_; intro a112 hF113; clear hF111
   refine gp hF113 23 0 [] (!(ctin q77.ID 0 2047)) (.pointer (some ⟨b86, 2, none⟩)) rfl rfl ?_; intro a114 hF115; clear hF113
   refine gd hF115 (.int .i64 q77.Every) (m := 0) (cj := []) (bj := !(ctin q77.ID 0 2047)) rfl rfl (by kernel_rfl) rfl (by kernel_rfl) (by kernel_rfl) (by kernel_rfl) (fun hg => ld hF115 hM106 0 (g := [0]) (b := b86) (off := 2) (cs := [.int .i64 q77.ID, .int .i64 q77.Bytes, .int .i64 q77.Every, .int .i64 q77.Late, .int .i64 q77.Jitter]) (ty := 34) rfl (by kernel_rfl) (by kernel_rfl) (by kernel_rfl) (by kernel_rfl) hg) ?_; intro a116 hF117; clear hF115
   refine gcl hF117 hM106 (.bool (ctin q77.Every 1 1000000)) 57 #[.int .i64 q77.Every, .int .i64 1, .int .i64 1000000] (m := 0) (cj := []) (bj := !(ctin q77.ID 0 2047)) rfl rfl (by kernel_rfl) rfl (by kernel_rfl) (by kernel_rfl) (by kernel_rfl) (fun _ => by kernel_rfl) (fun hg => ctin_fun q77.Every 1 1000000 _ _ hM106.fz) ?_; intro a118 wd120 hF119 hM121; clear hF117 hM106
   refine gp hF119 26 0 [] (!(ctin q77.ID 0 2047)) (.bool (!(ctin q77.Every 1 1000000))) rfl rfl ?_; intro a122 hF123; clear hF119
   refine st hF123 (.bool ((!(ctin q77.ID 0 2047)) || (!(ctin q77.Every 1 1000000)))) (nog rfl _) rfl (by kernel_rfl) (pk_or hF123 (g := []) (m := 0) (b := !(ctin q77.ID 0 2047)) (v := !(ctin q77.Every 1 1000000)) rfl (by kernel_rfl) (by kernel_rfl) (by kernel_rfl) rfl) ?_; intro a124 hF125; clear hF123
   refine s1 hF125 28 (.bool ((!(ctin q77.ID 0 2047)) || (!(ctin q77.Every 1 1000000)))) ?_; intro a126 hF127; clear hF125
   have hF128 := hF127.atom (((!(ctin q77.ID 0 2047)) || (!(ctin q77.Every 1 1000000))) == false) (by kernel_rfl); clear hF127
   refine gp hF128 29 1 [] ((!(ctin q77.ID 0 2047)) || (!(ctin q77.Every 1 1000000))) (.func (.func 57) #[] #[]) rfl rfl ?_; intro a129 hF130; clear hF128
   refine gp hF130 30 1 [] ((!(ctin q77.ID 0 2047)) || (!(ctin q77.Every 1 1000000))) (.pointer (some ⟨b86, 3, none⟩)) rfl rfl ?_; intro a131 hF132; clear hF130
   refine gd hF132 (.int .i64 q77.Late) (m := 1) (cj := []) (bj := (!(ctin q77.ID 0 2047)) || (!(ctin q77.Every 1 1000000))) rfl rfl (by kernel_rfl) rfl (by kernel_rfl) (by kernel_rfl) (by kernel_rfl) (fun hg => ld hF132 hM121 0 (g := [1]) (b := b86) (off := 3) (cs := [.int .i64 q77.ID, .int .i64 q77.Bytes, .int .i64 q77.Every, .int .i64 q77.Late, .int .i64 q77.Jitter]) (ty := 34) rfl (by kernel_rfl) (by kernel_rfl) (by kernel_rfl) (by kernel_rfl) hg) ?_; intro a133 hF134; clear hF132
   refine gcl hF134 hM121 (.bool (ctin q77.Late 0 1000000)) 57 #[.int .i64 q77.Late, .int .i64 0, .int .i64 1000000] (m := 1) (cj := []) (bj := (!(ctin q77.ID 0 2047)) || (!(ctin q77.Every 1 1000000))) rfl rfl (by kernel_rfl) rfl (by kernel_rfl) (by kernel_rfl) (by kernel_rfl) (fun _ => by kernel_rfl) (fun hg => ctin_fun q77.Late 0 1000000 _ _ hM121.fz) ?_; intro a135 wd137 hF136 hM138; clear hF134 hM121
   refine gp hF136 33 1 [] ((!(ctin q77.ID 0 2047)) || (!(ctin q77.Every 1 1000000))) (.bool (!(ctin q77.Late 0 1000000))) rfl rfl ?_; intro a139 hF140; clear hF136
   refine st hF140 (.bool (((!(ctin q77.ID 0 2047)) || (!(ctin q77.Every 1 1000000))) || (!(ctin q77.Late 0 1000000)))) (nog rfl _) rfl (by kernel_rfl) (pk_or hF140 (g := []) (m := 1) (b := (!(ctin q77.ID 0 2047)) || (!(ctin q77.Every 1 1000000))) (v := !(ctin q77.Late 0 1000000)) rfl (by kernel_rfl) (by kernel_rfl) (by kernel_rfl) rfl) ?_; intro a141 hF142; clear hF140
   refine s1 hF142 35 (.bool (((!(ctin q77.ID 0 2047)) || (!(ctin q77.Every 1 1000000))) || (!(ctin q77.Late 0 1000000)))) ?_; intro a143 hF144; clear hF142
   have hF145 := hF144.atom ((((!(ctin q77.ID 0 2047)) || (!(ctin q77.Every 1 1000000))) || (!(ctin q77.Late 0 1000000))) == false) (by kernel_rfl); clear hF144
   refine gp hF145 36 2 [] (((!(ctin q77.ID 0 2047)) || (!(ctin q77.Every 1 1000000))) || (!(ctin q77.Late 0 1000000))) (.func (.func 57) #[] #[]) rfl rfl ?_; intro a146 hF147; clear hF145
   refine gp hF147 37 2 [] (((!(ctin q77.ID 0 2047)) || (!(ctin q77.Every 1 1000000))) || (!(ctin q77.Late 0 1000000))) (.pointer (some ⟨b86, 4, none⟩)) rfl rfl ?_; intro a148 hF149; clear hF147
   refine gd hF149 (.int .i64 q77.Jitter) (m := 2) (cj := []) (bj := ((!(ctin q77.ID 0 2047)) || (!(ctin q77.Every 1 1000000))) || (!(ctin q77.Late 0 1000000))) rfl rfl (by kernel_rfl) rfl (by kernel_rfl) (by kernel_rfl) (by kernel_rfl) (fun hg => ld hF149 hM138 0 (g := [2]) (b := b86) (off := 4) (cs := [.int .i64 q77.ID, .int .i64 q77.Bytes, .int .i64 q77.Every, .int .i64 q77.Late, .int .i64 q77.Jitter]) (ty := 34) rfl (by kernel_rfl) (by kernel_rfl) (by kernel_rfl) (by kernel_rfl) hg) ?_; intro a150 hF151; clear hF149
   refine gp hF151 39 2 [] (((!(ctin q77.ID 0 2047)) || (!(ctin q77.Every 1 1000000))) || (!(ctin q77.Late 0 1000000))) (.pointer (some ⟨b86, 2, none⟩)) rfl rfl ?_; intro a152 hF153; clear hF151
   refine gd hF153 (.int .i64 q77.Every) (m := 2) (cj := []) (bj := ((!(ctin q77.ID 0 2047)) || (!(ctin q77.Every 1 1000000))) || (!(ctin q77.Late 0 1000000))) rfl rfl (by kernel_rfl) rfl (by kernel_rfl) (by kernel_rfl) (by kernel_rfl) (fun hg => ld hF153 hM138 0 (g := [2]) (b := b86) (off := 2) (cs := [.int .i64 q77.ID, .int .i64 q77.Bytes, .int .i64 q77.Every, .int .i64 q77.Late, .int .i64 q77.Jitter]) (ty := 34) rfl (by kernel_rfl) (by kernel_rfl) (by kernel_rfl) (by kernel_rfl) hg) ?_; intro a154 hF155; clear hF153
   refine gp hF155 41 2 [] (((!(ctin q77.ID 0 2047)) || (!(ctin q77.Every 1 1000000))) || (!(ctin q77.Late 0 1000000))) (.int .i64 (w64 (q77.Every - 1))) rfl rfl ?_; intro a156 hF157; clear hF155
   refine gcl hF157 hM138 (.bool (ctin q77.Jitter 0 (w64 (q77.Every - 1)))) 57 #[.int .i64 q77.Jitter, .int .i64 0, .int .i64 (w64 (q77.Every - 1))] (m := 2) (cj := []) (bj := ((!(ctin q77.ID 0 2047)) || (!(ctin q77.Every 1 1000000))) || (!(ctin q77.Late 0 1000000))) rfl rfl (by kernel_rfl) rfl (by kernel_rfl) (by kernel_rfl) (by kernel_rfl) (fun _ => by kernel_rfl) (fun hg => ctin_fun q77.Jitter 0 (w64 (q77.Every - 1)) _ _ hM138.fz) ?_; intro a158 wd160 hF159 hM161; clear hF157 hM138
   refine gp hF159 43 2 [] (((!(ctin q77.ID 0 2047)) || (!(ctin q77.Every 1 1000000))) || (!(ctin q77.Late 0 1000000))) (.bool (!(ctin q77.Jitter 0 (w64 (q77.Every - 1))))) rfl rfl ?_; intro a162 hF163; clear hF159
   refine st hF163 (.bool ((((!(ctin q77.ID 0 2047)) || (!(ctin q77.Every 1 1000000))) || (!(ctin q77.Late 0 1000000))) || (!(ctin q77.Jitter 0 (w64 (q77.Every - 1)))))) (nog rfl _) rfl (by kernel_rfl) (pk_or hF163 (g := []) (m := 2) (b := ((!(ctin q77.ID 0 2047)) || (!(ctin q77.Every 1 1000000))) || (!(ctin q77.Late 0 1000000))) (v := !(ctin q77.Jitter 0 (w64 (q77.Every - 1)))) rfl (by kernel_rfl) (by kernel_rfl) (by kernel_rfl) rfl) ?_; intro a164 hF165; clear hF163
   refine s1 hF165 45 (.bool ((((!(ctin q77.ID 0 2047)) || (!(ctin q77.Every 1 1000000))) || (!(ctin q77.Late 0 1000000))) || (!(ctin q77.Jitter 0 (w64 (q77.Every - 1)))))) ?_; intro a166 hF167; clear hF165
   have hF168 := hF167.atom (((((!(ctin q77.ID 0 2047)) || (!(ctin q77.Every 1 1000000))) || (!(ctin q77.Late 0 1000000))) || (!(ctin q77.Jitter 0 (w64 (q77.Every - 1))))) == false) (by kernel_rfl); clear hF167
   refine gp hF168 46 3 [] ((((!(ctin q77.ID 0 2047)) || (!(ctin q77.Every 1 1000000))) || (!(ctin q77.Late 0 1000000))) || (!(ctin q77.Jitter 0 (w64 (q77.Every - 1))))) (.func (.func 57) #[] #[]) rfl rfl ?_; intro a169 hF170; clear hF168
   refine gp hF170 47 3 [] ((((!(ctin q77.ID 0 2047)) || (!(ctin q77.Every 1 1000000))) || (!(ctin q77.Late 0 1000000))) || (!(ctin q77.Jitter 0 (w64 (q77.Every - 1))))) (.pointer (some ⟨b86, 1, none⟩)) rfl rfl ?_; intro a171 hF172; clear hF170
   refine gd hF172 (.int .i64 q77.Bytes) (m := 3) (cj := []) (bj := (((!(ctin q77.ID 0 2047)) || (!(ctin q77.Every 1 1000000))) || (!(ctin q77.Late 0 1000000))) || (!(ctin q77.Jitter 0 (w64 (q77.Every - 1))))) rfl rfl (by kernel_rfl) rfl (by kernel_rfl) (by kernel_rfl) (by kernel_rfl) (fun hg => ld hF172 hM161 0 (g := [3]) (b := b86) (off := 1) (cs := [.int .i64 q77.ID, .int .i64 q77.Bytes, .int .i64 q77.Every, .int .i64 q77.Late, .int .i64 q77.Jitter]) (ty := 34) rfl (by kernel_rfl) (by kernel_rfl) (by kernel_rfl) (by kernel_rfl) hg) ?_; intro a173 hF174; clear hF172
   refine gcl hF174 hM161 (.bool (ctin q77.Bytes 0 8)) 57 #[.int .i64 q77.Bytes, .int .i64 0, .int .i64 8] (m := 3) (cj := []) (bj := (((!(ctin q77.ID 0 2047)) || (!(ctin q77.Every 1 1000000))) || (!(ctin q77.Late 0 1000000))) || (!(ctin q77.Jitter 0 (w64 (q77.Every - 1))))) rfl rfl (by kernel_rfl) rfl (by kernel_rfl) (by kernel_rfl) (by kernel_rfl) (fun _ => by kernel_rfl) (fun hg => ctin_fun q77.Bytes 0 8 _ _ hM161.fz) ?_; intro a175 wd177 hF176 hM178; clear hF174 hM161
   refine gp hF176 50 3 [] ((((!(ctin q77.ID 0 2047)) || (!(ctin q77.Every 1 1000000))) || (!(ctin q77.Late 0 1000000))) || (!(ctin q77.Jitter 0 (w64 (q77.Every - 1))))) (.bool (!(ctin q77.Bytes 0 8))) rfl rfl ?_; intro a179 hF180; clear hF176
   refine st hF180 (.bool (((((!(ctin q77.ID 0 2047)) || (!(ctin q77.Every 1 1000000))) || (!(ctin q77.Late 0 1000000))) || (!(ctin q77.Jitter 0 (w64 (q77.Every - 1))))) || (!(ctin q77.Bytes 0 8)))) (nog rfl _) rfl (by kernel_rfl) (pk_or hF180 (g := []) (m := 3) (b := (((!(ctin q77.ID 0 2047)) || (!(ctin q77.Every 1 1000000))) || (!(ctin q77.Late 0 1000000))) || (!(ctin q77.Jitter 0 (w64 (q77.Every - 1))))) (v := !(ctin q77.Bytes 0 8)) rfl (by kernel_rfl) (by kernel_rfl) (by kernel_rfl) rfl) ?_; intro a181 hF182; clear hF180
   refine nlH (hQ96 _ _ ?_); clear hQ96 hQ96Q
   refine cd hF182 (t := ((((!(ctin q77.ID 0 2047)) || (!(ctin q77.Every 1 1000000))) || (!(ctin q77.Late 0 1000000))) || (!(ctin q77.Jitter 0 (w64 (q77.Every - 1))))) || (!(ctin q77.Bytes 0 8))) (by kernel_rfl) (fun hb183 => ?_) (fun hb183 => ?_)
   · -- yes
    have hp184 := hp83.1 hb183; clear hp83
    have hF185 : Fr 66 [] [] a181 := hF182.region (by kernel_rfl) (by kernel_rfl); clear hF182
    refine sqH ?_; intro hQ186Q hQ186
    refine s1 hF185 2 (.int .i64 3) ?_; intro a187 hF188; clear hF185
    refine nlH (hQ186 _ _ ?_); clear hQ186 hQ186Q
    refine wp_ret ?_
    refine thr ?_
    refine ibr ?_
    refine thr ?_
    refine thr ?_
    refine ibr ?_
    refine thr ?_
    refine rt (fn := Try.f21) (v := .int .i64 3) hF188 (re1 hF188 (fn := Try.f21) rfl (by kernel_rfl)) ?_
    exact ⟨3, rfl, hp184, hM178.below⟩
   · -- no
    have hp189 := hp83.2 hb183; clear hp83
    refine wp_skip ?_
    refine thn ?_
    have hF190 : Fr 66 [] [⟨0, [], .slice ao1 u0.length cap2⟩, ⟨3, [], .func (.func 57) #[] #[]⟩, ⟨4, [], .int .i64 x11⟩, ⟨5, [], .pointer (some ⟨b86, 0, none⟩)⟩, ⟨9, [], .slice ao1 u0.length cap2⟩, ⟨10, [], .int .i64 (u0.length : Int)⟩, ⟨11, [], .int .i64 x11⟩] a181 := hF182.region (by kernel_rfl) (by kernel_rfl); clear hF182
    rcases Bool.eq_false_or_eq_true (decide (x11 > 0)) with hb191 | hb191
    · -- true
     have hp192 := hp189.1 hb191; clear hp189
     have hF193 : Fr 66 [] [⟨0, [], .slice ao1 u0.length cap2⟩, ⟨3, [], .func (.func 57) #[] #[]⟩, ⟨4, [], .int .i64 x11⟩, ⟨5, [], .pointer (some ⟨b86, 0, none⟩)⟩, ⟨9, [], .slice ao1 u0.length cap2⟩, ⟨10, [], .int .i64 (u0.length : Int)⟩, ⟨11, [], .int .i64 x11⟩] a181 := hF190.region (by kernel_rfl) (by kernel_rfl); clear hF190
     refine sqQH mixed (by kernel_rfl) hM178 ?_; intro hQ194Q hQ194
     refine q1 hF193 52 (.int .i64 x11) ?_; intro a196 hF197; clear hF193
     refine q1 hF197 53 (.bool (decide (x11 > 0))) ?_; intro a199 hF200; clear hF197
     have hF201 := hF200.reval (d := 53) (c := []) (v := .bool (decide (x11 > 0))) (by kernel_rfl) (.bool true) (by rw [hb191]); clear hF200
     refine q1 hF201 54 (.bool true) ?_; intro a203 hF204; clear hF201
     refine qst hF204 (.pointer (some ⟨b86, 0, none⟩)) (by rw [wanted_of hF204 (b := true) rfl rfl (by kernel_rfl) (by kernel_rfl)]; rfl) rfl (by kernel_rfl) (fun v205 hC => p0 hF204 (by kernel_rfl)) ?_; intro a206 hF207; clear hF204
     refine qst hF207 (.int .i64 q77.ID) (by rw [wanted_of hF207 (b := true) rfl rfl (by kernel_rfl) (by kernel_rfl)]; rfl) rfl (by kernel_rfl) (fun v208 hC => ld hF207 hC 0 (g := []) (b := b86) (off := 0) (cs := [.int .i64 q77.ID, .int .i64 q77.Bytes, .int .i64 q77.Every, .int .i64 q77.Late, .int .i64 q77.Jitter]) (ty := 34) rfl (by kernel_rfl) (by kernel_rfl) (by kernel_rfl) (by kernel_rfl) rfl) ?_; intro a209 hF210; clear hF207
     refine qst hF210 (.slice ao1 u0.length cap2) (by rw [wanted_of hF210 (b := true) rfl rfl (by kernel_rfl) (by kernel_rfl)]; rfl) rfl (by kernel_rfl) (fun v211 hC => p0 hF210 (by kernel_rfl)) ?_; intro a212 hF213; clear hF210
     refine qst hF213 (.int .i64 x11) (by rw [wanted_of hF213 (b := true) rfl rfl (by kernel_rfl) (by kernel_rfl)]; rfl) rfl (by kernel_rfl) (fun v214 hC => p0 hF213 (by kernel_rfl)) ?_; intro a215 hF216; clear hF213
     refine qst hF216 (.int .i64 (w64 (x11 - 1))) (by rw [wanted_of hF216 (b := true) rfl rfl (by kernel_rfl) (by kernel_rfl)]; rfl) rfl (by kernel_rfl) (fun v217 hC => p0 hF216 (by kernel_rfl)) ?_; intro a218 hF219; clear hF216
     have hc221 := hp192.1; have hp222 := hp192.2; clear hp192
     refine qix hF219 (T := tyTask) (xs := u0) hs3 (w64 (x11 - 1)) hc221 (k := .i64) (e := 34) (bytes := 40) (by rw [wanted_of hF219 (b := true) rfl rfl (by kernel_rfl) (by kernel_rfl)]; rfl) rfl (by kernel_rfl) rfl (by kernel_rfl) (by kernel_rfl) (by kernel_rfl) ?_; intro b223 off224 cs225 q226 a230 hq227 hP228 hT229 hF231; clear hF219
     have hp232 := hp222 q226 hq227; clear hp222
     obtain rfl : cs225 = ([.int .i64 q226.ID, .int .i64 q226.Bytes, .int .i64 q226.Every, .int .i64 q226.Late, .int .i64 q226.Jitter] : List Value) := hT229
     refine qst hF231 (.pointer (some ⟨b223, off224, none⟩)) (by rw [wanted_of hF231 (b := true) rfl rfl (by kernel_rfl) (by kernel_rfl)]; rfl) rfl (by kernel_rfl) (fun v233 hC => p0 hF231 (by kernel_rfl)) ?_; intro a234 hF235; clear hF231
     refine qst hF235 (.int .i64 q226.ID) (by rw [wanted_of hF235 (b := true) rfl rfl (by kernel_rfl) (by kernel_rfl)]; rfl) rfl (by kernel_rfl) (fun v236 hC => lz hF235 hC.fz hP228 0 (g := []) rfl (by kernel_rfl) (by kernel_rfl) (by kernel_rfl) rfl) ?_; intro a237 hF238; clear hF235
     refine qst hF238 (.bool (decide (q77.ID ≤ q226.ID))) (by rw [wanted_of hF238 (b := true) rfl rfl (by kernel_rfl) (by kernel_rfl)]; rfl) rfl (by kernel_rfl) (fun v239 hC => p0 hF238 (by kernel_rfl)) ?_; intro a240 hF241; clear hF238
     refine q1 hF241 64 (.bool (decide (q77.ID ≤ q226.ID))) ?_; intro a243 hF244; clear hF241
     refine qnl (hQ194 _ ?_); clear hQ194 hQ194Q; intro wd245 hM246; clear hM178
     refine cd hF244 (t := decide (q77.ID ≤ q226.ID)) (by kernel_rfl) (fun hb247 => ?_) (fun hb247 => ?_)
     · -- yes
      have hp248 := hp232.1 hb247; clear hp232
      refine sqH ?_; intro hQ249Q hQ249
      refine s1 hF244 2 (.int .i64 4) ?_; intro a250 hF251; clear hF244
      refine nlH (hQ249 _ _ ?_); clear hQ249 hQ249Q
      refine wp_ret ?_
      refine ibr ?_
      refine thr ?_
      refine thr ?_
      refine ibr ?_
      refine thr ?_
      refine rt (fn := Try.f21) (v := .int .i64 4) hF251 (re1 hF251 (fn := Try.f21) rfl (by kernel_rfl)) ?_
      exact ⟨4, rfl, hp248, hM246.below⟩
     · -- no
      have hp252 := hp232.2 hb247; clear hp232
      refine wp_skip ?_
      refine ibn ?_
      refine rd ?_
      exact hJ57 () hp252 _ _ ((hF244.region (by kernel_rfl) (by kernel_rfl)).anyβ _ (by kernel_rfl)) (hM246.keep (List.Sublist.cons _ (List.Sublist.slnil)))
    · -- false
     have hp253 := hp189.2 hb191; clear hp189
     have hF254 : Fr 66 [] [⟨0, [], .slice ao1 u0.length cap2⟩, ⟨3, [], .func (.func 57) #[] #[]⟩, ⟨4, [], .int .i64 x11⟩, ⟨5, [], .pointer (some ⟨b86, 0, none⟩)⟩, ⟨9, [], .slice ao1 u0.length cap2⟩, ⟨10, [], .int .i64 (u0.length : Int)⟩, ⟨11, [], .int .i64 x11⟩] a181 := hF190.region (by kernel_rfl) (by kernel_rfl); clear hF190
     refine sqQH mixed (by kernel_rfl) hM178 ?_; intro hQ255Q hQ255
     refine q1 hF254 52 (.int .i64 x11) ?_; intro a257 hF258; clear hF254
     refine q1 hF258 53 (.bool (decide (x11 > 0))) ?_; intro a260 hF261; clear hF258
     have hF262 := hF261.reval (d := 53) (c := []) (v := .bool (decide (x11 > 0))) (by kernel_rfl) (.bool false) (by rw [hb191]); clear hF261
     refine q1 hF262 54 (.bool false) ?_; intro a264 hF265; clear hF262
     refine qsk hF265 (b := false) rfl rfl (by kernel_rfl) (by kernel_rfl) rfl rfl (by kernel_rfl) ?_; intro a266 hF267; clear hF265
     refine qsk hF267 (b := false) rfl rfl (by kernel_rfl) (by kernel_rfl) rfl rfl (by kernel_rfl) ?_; intro a268 hF269; clear hF267
     refine qsk hF269 (b := false) rfl rfl (by kernel_rfl) (by kernel_rfl) rfl rfl (by kernel_rfl) ?_; intro a270 hF271; clear hF269
     refine qsk hF271 (b := false) rfl rfl (by kernel_rfl) (by kernel_rfl) rfl rfl (by kernel_rfl) ?_; intro a272 hF273; clear hF271
     refine qsk hF273 (b := false) rfl rfl (by kernel_rfl) (by kernel_rfl) rfl rfl (by kernel_rfl) ?_; intro a274 hF275; clear hF273
     refine qsk hF275 (b := false) rfl rfl (by kernel_rfl) (by kernel_rfl) rfl rfl (by kernel_rfl) ?_; intro a276 hF277; clear hF275
     refine qsk hF277 (b := false) rfl rfl (by kernel_rfl) (by kernel_rfl) rfl rfl (by kernel_rfl) ?_; intro a278 hF279; clear hF277
     refine qsk hF279 (b := false) rfl rfl (by kernel_rfl) (by kernel_rfl) rfl rfl (by kernel_rfl) ?_; intro a280 hF281; clear hF279
     refine qsk hF281 (b := false) rfl rfl (by kernel_rfl) (by kernel_rfl) rfl rfl (by kernel_rfl) ?_; intro a282 hF283; clear hF281
     refine q1 hF283 64 (.bool false) ?_; intro a285 hF286; clear hF283
     refine qnl (hQ255 _ ?_); clear hQ255 hQ255Q; intro wd287 hM288; clear hM178
     refine cdF hF286 (by kernel_rfl) ?_
     refine wp_skip ?_
     refine ibn ?_
     refine rd ?_
     exact hJ57 () hp253 _ _ ((hF286.region (by kernel_rfl) (by kernel_rfl)).anyβ _ (by kernel_rfl)) (hM288.keep (List.Sublist.cons _ (List.Sublist.slnil)))
  · -- no
   have hp289 := hp44.2 hb48; clear hp44
   refine wp_exit ?_
   refine thx ?_
   refine thx ?_
   refine ibx ?_
   refine thn ?_
   refine sqH ?_; intro hQ290Q hQ290
   refine s1 hF47 2 (.int .i64 0) ?_; intro a291 hF292; clear hF47
   refine nlH (hQ290 _ _ ?_); clear hQ290 hQ290Q
   refine wp_ret ?_
   refine rt (fn := Try.f21) (v := .int .i64 0) hF292 (re1 hF292 (fn := Try.f21) rfl (by kernel_rfl)) ?_
   exact ⟨0, rfl, hp289, hM43.below⟩

set_option maxRecDepth 100000 in
set_option maxHeartbeats 0 in
theorem played_walk   (Z : Fz) (w : World)  (hZ : Z.on w) {K : Bool → Prop} (hp : played_vc  K) : Calls Try.prog 19 #[] w fun e w' => ∃ r : Bool, e = .returned (.bool r) ∧ K r ∧ Below w.heap.size w w' := by
 refine enter0 Try.func19 rfl rfl (by kernel_rfl) ?_; intro a0 hF0; have hM0 := Mem.start w Z hZ; have hle0 := Fz.le.refl Z
 refine sqH ?_; intro hQ1Q hQ1
 refine s1 hF0 0 (.bool false) ?_; intro a2 hF3; clear hF0
 refine nlH (hQ1 _ _ ?_); clear hQ1 hQ1Q
 refine sqH ?_; intro hQ4Q hQ4
 refine cl hF3 49 #[] (nog rfl _) rfl (by kernel_rfl) (by kernel_rfl) ?_
 refine (dtasks_fun  _ _ hM0.fz).mono ?_; rintro _ wd5 ⟨ao9, cap10, Z11, rfl, hm⟩; refine ⟨_, rfl, ?_⟩; intro a6 hF7; have hM8 := hM0.callZ hm; have hle12 := hm.ext.le; clear hm hM0 hF3
 replace hle0 := Fz.le.trans hle0 hle12
 have hM13 : Mem w.heap.size [] w Z [.own tyTask 34 ao9 cap10 tasksS] Z11 wd5 := hM8; clear hM8
 have hp14 := hp (hM13.ownSmall 0 rfl); clear hp
 refine sn hF7 hM13 (fun b => .slice (some ⟨b, 0, none⟩) 2 2) [.int .i64 5, .int .i64 5] 3 (nog rfl _) rfl (by kernel_rfl) (by kernel_rfl) ?_; intro b15 a16 wd18 hF17 hM19; clear hF7 hM13
 obtain ⟨Z20, hle21, hM22, hs23⟩ := hM19.freeze 1 rfl
 replace hle0 := Fz.le.trans hle0 hle21
 have hM24 : Mem w.heap.size [] w Z [.row b15 [.int .i64 5, .int .i64 5] 3] Z20 wd18 := hM22; clear hM22
 have hM25 : Mem w.heap.size [] w Z [.own (tyInt .i64) 3 (some ⟨b15, 0, none⟩) 2 ([5, 5] : List Int)] Z20 wd18 := hM24.rowOwn (T := (tyInt .i64)) (xs := ([5, 5] : List Int)) 0 rfl (by decide) (by show 2 ≤ lim; decide) ((RepAll.one (T := (tyInt .i64)) (x := 5) rfl).append (RepAll.one (T := (tyInt .i64)) (x := 5) rfl)); clear hM24
 obtain ⟨Z26, hle27, hM28, hs29⟩ := hM25.freeze 0 rfl
 replace hs23 := hs23.mono hle27
 replace hle0 := Fz.le.trans hle0 hle27
 have hM30 : Mem w.heap.size [] w Z [] Z26 wd18 := hM28; clear hM28
 refine cl hF17 18 #[.slice ao9 tasksS.length cap10, .slice (some ⟨b15, 0, none⟩) ([5, 5] : List Int).length 2, .slice none 0 0, .int .i64 100] (nog rfl _) rfl (by kernel_rfl) (by kernel_rfl) ?_
 refine (splay_fun tasksS ([5, 5] : List Int) [] 100 ao9 cap10 (some ⟨b15, 0, none⟩) 2 none 0 _ _ hs23 hs29 (SlR.nil _ _) hM30.fz).mono ?_; rintro _ wd31 ⟨ao35, cap36, Z37, rfl, hm⟩; refine ⟨_, rfl, ?_⟩; intro a32 hF33; have hM34 := hM30.callZ hm; have hle38 := hm.ext.le; clear hm hM30 hF17
 replace hs23 := hs23.mono hle38
 replace hs29 := hs29.mono hle38
 replace hle0 := Fz.le.trans hle0 hle38
 have hM39 : Mem w.heap.size [] w Z [.own tySlot 48 ao35 cap36 ((playS tasksS ([5, 5] : List Int) [] 100).1)] Z37 wd31 := hM34; clear hM34
 have hp40 := hp14 (hM39.ownSmall 0 rfl); clear hp14
 refine s1 hF33 3 (.tuple #[.slice ao35 ((playS tasksS ([5, 5] : List Int) [] 100).1).length cap36, .int .i64 ((playS tasksS ([5, 5] : List Int) [] 100).2)]) ?_; intro a41 hF42; clear hF33
 refine s1 hF42 7 (.slice ao35 ((playS tasksS ([5, 5] : List Int) [] 100).1).length cap36) ?_; intro a43 hF44; clear hF42
 refine s1 hF44 8 (.int .i64 ((playS tasksS ([5, 5] : List Int) [] 100).2)) ?_; intro a45 hF46; clear hF44
 refine s1 hF46 1 (.slice ao35 ((playS tasksS ([5, 5] : List Int) [] 100).1).length cap36) ?_; intro a47 hF48; clear hF46
 refine s1 hF48 2 (.int .i64 ((playS tasksS ([5, 5] : List Int) [] 100).2)) ?_; intro a49 hF50; clear hF48
 refine nlH (hQ4 _ _ ?_); clear hQ4 hQ4Q
 refine sqH ?_; intro hQ51Q hQ51
 refine s1 hF50 9 (.int .i64 ((playS tasksS ([5, 5] : List Int) [] 100).2)) ?_; intro a52 hF53; clear hF50
 refine s1 hF53 10 (.bool (((playS tasksS ([5, 5] : List Int) [] 100).2) == 0)) ?_; intro a54 hF55; clear hF53
 refine s1 hF55 11 (.bool (((playS tasksS ([5, 5] : List Int) [] 100).2) == 0)) ?_; intro a56 hF57; clear hF55
 have hF58 := hF57.atom ((((playS tasksS ([5, 5] : List Int) [] 100).2) == 0) == true) (by kernel_rfl); clear hF57
 refine gp hF58 12 0 [] (((playS tasksS ([5, 5] : List Int) [] 100).2) == 0) (.slice ao35 ((playS tasksS ([5, 5] : List Int) [] 100).1).length cap36) rfl rfl ?_; intro a59 hF60; clear hF58
 refine gp hF60 13 0 [] (((playS tasksS ([5, 5] : List Int) [] 100).2) == 0) (.agg #[.int .i64 0, .int .i64 5, .int .i64 5, .int .i64 140]) rfl rfl ?_; intro a61 hF62; clear hF60
 refine gp hF62 14 0 [] (((playS tasksS ([5, 5] : List Int) [] 100).2) == 0) (.agg #[.int .i64 1, .int .i64 5, .int .i64 140, .int .i64 275]) rfl rfl ?_; intro a63 hF64; clear hF62
 rcases Bool.eq_false_or_eq_true (((playS tasksS ([5, 5] : List Int) [] 100).2) == 0) with hb65 | hb65
 · -- true
  have hp66 := hp40.1 hb65; clear hp40
  have hF67 := hF64.reval (d := 11) (c := []) (v := .bool (((playS tasksS ([5, 5] : List Int) [] 100).2) == 0)) (by kernel_rfl) (.bool true) (by rw [hb65]); clear hF64
  have hF68 := hF67.setc (d := 12) (c := [0]) (v := .slice ao35 ((playS tasksS ([5, 5] : List Int) [] 100).1).length cap36) (by kernel_rfl) (v' := .slice ao35 ((playS tasksS ([5, 5] : List Int) [] 100).1).length cap36) (by rw [hb65]; kernel_rfl); clear hF67
  have hF69 := hF68.setc (d := 13) (c := [0]) (v := .agg #[.int .i64 0, .int .i64 5, .int .i64 5, .int .i64 140]) (by kernel_rfl) (v' := .agg #[.int .i64 0, .int .i64 5, .int .i64 5, .int .i64 140]) (by rw [hb65]; kernel_rfl); clear hF68
  have hF70 := hF69.setc (d := 14) (c := [0]) (v := .agg #[.int .i64 1, .int .i64 5, .int .i64 140, .int .i64 275]) (by kernel_rfl) (v' := .agg #[.int .i64 1, .int .i64 5, .int .i64 140, .int .i64 275]) (by rw [hb65]; kernel_rfl); clear hF69
  refine sn hF70 hM39 (fun b => .slice (some ⟨b, 0, none⟩) 2 2) [.int .i64 0, .int .i64 5, .int .i64 5, .int .i64 140, .int .i64 1, .int .i64 5, .int .i64 140, .int .i64 275] 48 (by rw [wanted_of hF70 (b := true) rfl rfl (by kernel_rfl) (by kernel_rfl)]; rfl) rfl (by kernel_rfl) (by kernel_rfl) ?_; intro b71 a72 wd74 hF73 hM75; clear hF70 hM39
  obtain ⟨Z76, hle77, hM78, hs79⟩ := hM75.freeze 1 rfl
  replace hs23 := hs23.mono hle77
  replace hs29 := hs29.mono hle77
  replace hle0 := Fz.le.trans hle0 hle77
  have hM80 : Mem w.heap.size [] w Z [.row b71 [.int .i64 0, .int .i64 5, .int .i64 5, .int .i64 140, .int .i64 1, .int .i64 5, .int .i64 140, .int .i64 275] 48] Z76 wd74 := hM78; clear hM78
  have hM81 : Mem w.heap.size [] w Z [.own tySlot 48 (some ⟨b71, 0, none⟩) 2 ([(⟨0, 5, 5, 140⟩ : Slot), (⟨1, 5, 140, 275⟩ : Slot)] : List Slot)] Z76 wd74 := hM80.rowOwn (T := tySlot) (xs := ([(⟨0, 5, 5, 140⟩ : Slot), (⟨1, 5, 140, 275⟩ : Slot)] : List Slot)) 0 rfl (by decide) (by show 2 ≤ lim; decide) ((RepAll.one (T := tySlot) (x := (⟨0, 5, 5, 140⟩ : Slot)) rfl).append (RepAll.one (T := tySlot) (x := (⟨1, 5, 140, 275⟩ : Slot)) rfl)); clear hM80
  obtain ⟨Z82, hle83, hM84, hs85⟩ := hM81.freeze 0 rfl
  replace hs23 := hs23.mono hle83
  replace hs29 := hs29.mono hle83
  replace hs79 := hs79.mono hle83
  replace hle0 := Fz.le.trans hle0 hle83
  have hM86 : Mem w.heap.size [] w Z [] Z82 wd74 := hM84; clear hM84
  refine fcl hF73 hM86 (.bool (sleqS ((playS tasksS ([5, 5] : List Int) [] 100).1) ([(⟨0, 5, 5, 140⟩ : Slot), (⟨1, 5, 140, 275⟩ : Slot)] : List Slot))) 56 #[.slice ao35 ((playS tasksS ([5, 5] : List Int) [] 100).1).length cap36, .slice (some ⟨b71, 0, none⟩) ([(⟨0, 5, 5, 140⟩ : Slot), (⟨1, 5, 140, 275⟩ : Slot)] : List Slot).length 2] (by rw [wanted_of hF73 (b := true) rfl rfl (by kernel_rfl) (by kernel_rfl)]; rfl) rfl (by kernel_rfl) (fun _ => by kernel_rfl) (sleq_fun ((playS tasksS ([5, 5] : List Int) [] 100).1) ([(⟨0, 5, 5, 140⟩ : Slot), (⟨1, 5, 140, 275⟩ : Slot)] : List Slot) ao35 cap36 (some ⟨b71, 0, none⟩) 2 _ _ hs79 hs85 hM86.fz) ?_; intro a87 wd89 hF88 hM90; clear hF73 hM86
  refine s1 hF88 17 (.bool (sleqS ((playS tasksS ([5, 5] : List Int) [] 100).1) ([(⟨0, 5, 5, 140⟩ : Slot), (⟨1, 5, 140, 275⟩ : Slot)] : List Slot))) ?_; intro a91 hF92; clear hF88
  refine s1 hF92 0 (.bool (sleqS ((playS tasksS ([5, 5] : List Int) [] 100).1) ([(⟨0, 5, 5, 140⟩ : Slot), (⟨1, 5, 140, 275⟩ : Slot)] : List Slot))) ?_; intro a93 hF94; clear hF92
  refine nlH (hQ51 _ _ ?_); clear hQ51 hQ51Q
  refine wp_ret ?_
  refine rt (fn := Try.f19) (v := .bool (sleqS ((playS tasksS ([5, 5] : List Int) [] 100).1) ([(⟨0, 5, 5, 140⟩ : Slot), (⟨1, 5, 140, 275⟩ : Slot)] : List Slot))) hF94 (re1 hF94 (fn := Try.f19) rfl (by kernel_rfl)) ?_
  exact ⟨(sleqS ((playS tasksS ([5, 5] : List Int) [] 100).1) ([(⟨0, 5, 5, 140⟩ : Slot), (⟨1, 5, 140, 275⟩ : Slot)] : List Slot)), rfl, hp66, hM90.below⟩
 · -- false
  have hp95 := hp40.2 hb65; clear hp40
  have hF96 := hF64.reval (d := 11) (c := []) (v := .bool (((playS tasksS ([5, 5] : List Int) [] 100).2) == 0)) (by kernel_rfl) (.bool false) (by rw [hb65]); clear hF64
  have hF97 := hF96.setc (d := 12) (c := [0]) (v := .slice ao35 ((playS tasksS ([5, 5] : List Int) [] 100).1).length cap36) (by kernel_rfl) (v' := undef) (by rw [hb65]; kernel_rfl); clear hF96
  have hF98 := hF97.setc (d := 13) (c := [0]) (v := .agg #[.int .i64 0, .int .i64 5, .int .i64 5, .int .i64 140]) (by kernel_rfl) (v' := undef) (by rw [hb65]; kernel_rfl); clear hF97
  have hF99 := hF98.setc (d := 14) (c := [0]) (v := .agg #[.int .i64 1, .int .i64 5, .int .i64 140, .int .i64 275]) (by kernel_rfl) (v' := undef) (by rw [hb65]; kernel_rfl); clear hF98
  refine sk hF99 (b := false) rfl rfl (by kernel_rfl) (by kernel_rfl) rfl rfl (by kernel_rfl) ?_; intro a100 hF101; clear hF99
  refine sk hF101 (b := false) rfl rfl (by kernel_rfl) (by kernel_rfl) rfl rfl (by kernel_rfl) ?_; intro a102 hF103; clear hF101
  refine s1 hF103 17 (.bool false) ?_; intro a104 hF105; clear hF103
  refine s1 hF105 0 (.bool false) ?_; intro a106 hF107; clear hF105
  refine nlH (hQ51 _ _ ?_); clear hQ51 hQ51Q
  refine wp_ret ?_
  refine rt (fn := Try.f19) (v := .bool false) hF107 (re1 hF107 (fn := Try.f19) rfl (by kernel_rfl)) ?_
  exact ⟨false, rfl, hp95, hM39.below⟩

end Go.Proofs.Ytginlmgkimfjmaa
