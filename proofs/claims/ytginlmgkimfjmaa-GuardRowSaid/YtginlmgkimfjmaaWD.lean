/- The walks, made by program: each call does what its pure predicate says. -/
import Derived.Test.YtginlmgkimfjmaaPD
import Derived.Test.YtginlmgkimfjmaaWC
set_option linter.unusedVariables false
set_option linter.unusedSimpArgs false
namespace Go.Proofs.Ytginlmgkimfjmaa
open Go.Sy Go.RowKit
theorem gbad_fun (u0 : Guard) (b1 : Nat) (B : Nat) (w0 : World) (Z0 : Fz) (Rr : List Res) (Z : Fz) (w : World) (hM0 : Mem B [] w0 Z0 ((.row b1 [.int .i64 u0.Key, .int .i64 u0.Last, .int .i64 u0.Bad, .int .i64 u0.State] 24) :: Rr) Z w) (hZ : Z.on w) : Calls Try.prog 46 #[.pointer (some ⟨b1, 0, none⟩)] w fun e w' => ∃ (Z' : Fz), e = .returned (.tuple #[.agg #[.int .i64 (gbadS u0).1.Key, .int .i64 (gbadS u0).1.Last, .int .i64 (gbadS u0).1.Bad, .int .i64 (gbadS u0).1.State], .int .i64 (gbadS u0).2.1]) ∧ Fz.le Z Z' ∧ Mem B [] w0 Z0 ((.row b1 [.int .i64 (gbadS u0).2.2.Key, .int .i64 (gbadS u0).2.2.Last, .int .i64 (gbadS u0).2.2.Bad, .int .i64 (gbadS u0).2.2.State] 24) :: Rr) Z' w' :=
  (gbad_walk u0 b1 B w0 Z0 Rr Z w hM0 hZ (gbad_ok u0)).mono fun _ _ ⟨r, h0, he, hk, f0, hm⟩ => by subst hk; exact ⟨h0, he, f0, hm⟩

theorem gput_fun (u0 : Int) (u1 : Int) (u2 : List Int) (hpre : ∀ x ∈ u2, 0 ≤ x ∧ x ≤ 255) (ao1 : Option Addr) (cap2 : Nat) (Z : Fz) (w : World) (hs3 : SlR (tyInt .u8) Z ao1 cap2 u2) (hZ : Z.on w) : Calls Try.prog 12 #[.int .i64 u0, .int .i64 u1, .slice ao1 u2.length cap2] w fun e w' => ∃ (ao1001 : Option Addr) (cap1002 : Nat) (Z' : Fz), e = .returned (.tuple #[.slice ao1001 (gputS u0 u1 u2).1.length cap1002, .int .i64 (gputS u0 u1 u2).2]) ∧ Mem w.heap.size [] w Z [.own (tyInt .u8) 5 ao1001 cap1002 (gputS u0 u1 u2).1] Z' w' :=
  (gput_walk u0 u1 u2 ao1 cap2 Z w hs3 hZ (gput_ok u0 u1 u2 hpre)).mono fun _ _ ⟨r, h0, h1, h2, he, hk, hm⟩ => by subst hk; exact ⟨h0, h1, h2, he, hm⟩

set_option maxRecDepth 100000 in
set_option maxHeartbeats 0 in
theorem gsee_walk (u0 : Guard) (u1 : List Int) (u2 : Int) (ao1 : Option Addr) (cap2 : Nat) (Z : Fz) (w : World) (hs3 : SlR (tyInt .u8) Z ao1 cap2 u1) (hZ : Z.on w) {K : (Guard × Int) → Prop} (hp : gsee_vc u0 u1 u2 K) : Calls Try.prog 14 #[.agg #[.int .i64 u0.Key, .int .i64 u0.Last, .int .i64 u0.Bad, .int .i64 u0.State], .slice ao1 u1.length cap2, .int .i64 u2] w fun e w' => ∃ r : Guard × Int, e = .returned (.tuple #[.agg #[.int .i64 r.1.Key, .int .i64 r.1.Last, .int .i64 r.1.Bad, .int .i64 r.1.State], .int .i64 r.2]) ∧ K r ∧ Below w.heap.size w w' := by
 refine enter0 Try.func14 rfl rfl (by kernel_rfl) ?_; intro a0 hF0; have hM0 := Mem.start w Z hZ; have hle0 := Fz.le.refl Z
 have hp4 := hp (hs3.small); clear hp
 refine sqH ?_; intro hQ5Q hQ5
 refine sn hF0 hM0 (fun b => .pointer (some ⟨b, 0, none⟩)) [.int .i64 u0.Key, .int .i64 u0.Last, .int .i64 u0.Bad, .int .i64 u0.State] 24 (nog rfl _) rfl (by kernel_rfl) (by kernel_rfl) ?_; intro b6 a7 wd9 hF8 hM10; clear hF0 hM0
 refine sn hF8 hM10 (fun b => .pointer (some ⟨b, 0, none⟩)) [.int .i64 0, .int .i64 0, .int .i64 0, .int .i64 0] 24 (nog rfl _) rfl (by kernel_rfl) (by kernel_rfl) ?_; intro b11 a12 wd14 hF13 hM15; clear hF8 hM10
 refine s1 hF13 7 (.int .i64 0) ?_; intro a16 hF17; clear hF13
 refine nlH (hQ5 _ _ ?_); clear hQ5 hQ5Q
 refine wp_seq ?_
 refine sqH ?_; intro hQ18Q hQ18
 refine l2 hF17 hM15 12 1 0 4 [.int .i64 u0.Key, .int .i64 u0.Last, .int .i64 u0.Bad, .int .i64 u0.State] rfl rfl ?_; intro a19 hF20; clear hF17
 refine fcl hF20 hM15 (.int .i64 (gcheck u0)) 45 #[.agg #[.int .i64 u0.Key, .int .i64 u0.Last, .int .i64 u0.Bad, .int .i64 u0.State]] (nog rfl _) rfl (by kernel_rfl) (fun _ => by kernel_rfl) (gcheck_fun u0 _ _ hM15.fz) ?_; intro a21 wd23 hF22 hM24; clear hF20 hM15
 refine s1 hF22 8 (.int .i64 (gcheck u0)) ?_; intro a25 hF26; clear hF22
 refine nlH (hQ18 _ _ ?_); clear hQ18 hQ18Q
 refine sqH ?_; intro hQ27Q hQ27
 refine s1 hF26 14 (.int .i64 (gcheck u0)) ?_; intro a28 hF29; clear hF26
 refine s1 hF29 15 (.bool ((gcheck u0) != 0)) ?_; intro a30 hF31; clear hF29
 refine nlH (hQ27 _ _ ?_); clear hQ27 hQ27Q
 refine cd hF31 (t := (gcheck u0) != 0) (by kernel_rfl) (fun hb32 => ?_) (fun hb32 => ?_)
 · -- yes
  have hp33 := hp4.1 hb32; clear hp4
  refine sqH ?_; intro hQ34Q hQ34
  refine s1 hF31 16 (.agg #[.int .i64 0, .int .i64 0, .int .i64 0, .int .i64 0]) ?_; intro a35 hF36; clear hF31
  refine s1 hF36 17 (.int .i64 (gcheck u0)) ?_; intro a37 hF38; clear hF36
  refine sr hF38 hM24 0 [.int .i64 0, .int .i64 0, .int .i64 0, .int .i64 0] (b := b11) (off := 0) (cs := [.int .i64 0, .int .i64 0, .int .i64 0, .int .i64 0]) (ty := 24) (u := .agg #[.int .i64 0, .int .i64 0, .int .i64 0, .int .i64 0]) (nog rfl _) rfl rfl (by kernel_rfl) (by kernel_rfl) (by kernel_rfl) (by kernel_rfl) (by kernel_rfl) (by kernel_rfl) (by kernel_rfl) ?_; intro wd39 hM40; clear hM24
  refine s1 hF38 7 (.int .i64 (gcheck u0)) ?_; intro a41 hF42; clear hF38
  have hM43 : Mem w.heap.size [] w Z [.row b11 [.int .i64 0, .int .i64 0, .int .i64 0, .int .i64 0] 24, .row b6 [.int .i64 u0.Key, .int .i64 u0.Last, .int .i64 u0.Bad, .int .i64 u0.State] 24] Z wd39 := hM40; clear hM40
  refine nlH (hQ34 _ _ ?_); clear hQ34 hQ34Q
  refine wp_ret ?_
  refine thr ?_
  refine rt (fn := Try.f14) (v := .tuple #[.agg #[.int .i64 0, .int .i64 0, .int .i64 0, .int .i64 0], .int .i64 (gcheck u0)]) hF42 (re2c hF42 (fn := Try.f14) rfl (ad := ⟨b11, 0, none⟩) (by kernel_rfl) (loadVar_run hM43 0 (b := b11) (k := 4) (vs := [.int .i64 0, .int .i64 0, .int .i64 0, .int .i64 0]) (ty := 24) rfl (by kernel_rfl) (by kernel_rfl)) (by kernel_rfl)) ?_
  exact ⟨((⟨0, 0, 0, 0⟩ : Guard), (gcheck u0)), rfl, hp33, hM43.below⟩
 · -- no
  have hp44 := hp4.2 hb32; clear hp4
  refine wp_skip ?_
  refine thn ?_
  refine wp_seq ?_
  refine sqH ?_; intro hQ45Q hQ45
  refine s1 hF31 18 (.int .i64 u2) ?_; intro a46 hF47; clear hF31
  refine s1 hF47 19 (.bool (decide (u2 < 1))) ?_; intro a48 hF49; clear hF47
  refine s1 hF49 20 (.bool (decide (u2 < 1))) ?_; intro a50 hF51; clear hF49
  have hF52 := hF51.atom ((decide (u2 < 1)) == false) (by kernel_rfl); clear hF51
  refine gp hF52 21 0 [] (decide (u2 < 1)) (.int .i64 u2) rfl rfl ?_; intro a53 hF54; clear hF52
  refine gp hF54 22 0 [] (decide (u2 < 1)) (.bool (decide (u2 ≥ 15))) rfl rfl ?_; intro a55 hF56; clear hF54
  refine st hF56 (.bool ((decide (u2 < 1)) || (decide (u2 ≥ 15)))) (nog rfl _) rfl (by kernel_rfl) (pk_or hF56 (g := []) (m := 0) (b := decide (u2 < 1)) (v := decide (u2 ≥ 15)) rfl (by kernel_rfl) (by kernel_rfl) (by kernel_rfl) rfl) ?_; intro a57 hF58; clear hF56
  refine nlH (hQ45 _ _ ?_); clear hQ45 hQ45Q
  refine cd hF58 (t := (decide (u2 < 1)) || (decide (u2 ≥ 15))) (by kernel_rfl) (fun hb59 => ?_) (fun hb59 => ?_)
  · -- yes
   have hp60 := hp44.1 hb59; clear hp44
   have hF61 : Fr 92 [] [⟨6, [], .pointer (some ⟨b11, 0, none⟩)⟩] a57 := hF58.region (by kernel_rfl) (by kernel_rfl); clear hF58
   refine sqH ?_; intro hQ62Q hQ62
   refine s1 hF61 24 (.agg #[.int .i64 0, .int .i64 0, .int .i64 0, .int .i64 0]) ?_; intro a63 hF64; clear hF61
   refine sr hF64 hM24 0 [.int .i64 0, .int .i64 0, .int .i64 0, .int .i64 0] (b := b11) (off := 0) (cs := [.int .i64 0, .int .i64 0, .int .i64 0, .int .i64 0]) (ty := 24) (u := .agg #[.int .i64 0, .int .i64 0, .int .i64 0, .int .i64 0]) (nog rfl _) rfl rfl (by kernel_rfl) (by kernel_rfl) (by kernel_rfl) (by kernel_rfl) (by kernel_rfl) (by kernel_rfl) (by kernel_rfl) ?_; intro wd65 hM66; clear hM24
   refine s1 hF64 7 (.int .i64 3) ?_; intro a67 hF68; clear hF64
   have hM69 : Mem w.heap.size [] w Z [.row b11 [.int .i64 0, .int .i64 0, .int .i64 0, .int .i64 0] 24, .row b6 [.int .i64 u0.Key, .int .i64 u0.Last, .int .i64 u0.Bad, .int .i64 u0.State] 24] Z wd65 := hM66; clear hM66
   refine nlH (hQ62 _ _ ?_); clear hQ62 hQ62Q
   refine wp_ret ?_
   refine thr ?_
   refine rt (fn := Try.f14) (v := .tuple #[.agg #[.int .i64 0, .int .i64 0, .int .i64 0, .int .i64 0], .int .i64 3]) hF68 (re2c hF68 (fn := Try.f14) rfl (ad := ⟨b11, 0, none⟩) (by kernel_rfl) (loadVar_run hM69 0 (b := b11) (k := 4) (vs := [.int .i64 0, .int .i64 0, .int .i64 0, .int .i64 0]) (ty := 24) rfl (by kernel_rfl) (by kernel_rfl)) (by kernel_rfl)) ?_
   exact ⟨((⟨0, 0, 0, 0⟩ : Guard), 3), rfl, hp60, hM69.below⟩
  · -- no
   have hp70 := hp44.2 hb59; clear hp44
   refine wp_skip ?_
   refine thn ?_
   refine wp_seq ?_
   have hF71 : Fr 92 [] [⟨1, [], .slice ao1 u1.length cap2⟩, ⟨2, [], .int .i64 u2⟩, ⟨3, [], .pointer (some ⟨b6, 0, none⟩)⟩, ⟨6, [], .pointer (some ⟨b11, 0, none⟩)⟩] a57 := hF58.region (by kernel_rfl) (by kernel_rfl); clear hF58
   refine sqH ?_; intro hQ72Q hQ72
   refine s1 hF71 25 (.slice ao1 u1.length cap2) ?_; intro a73 hF74; clear hF71
   refine s1 hF74 26 (.int .i64 (u1.length : Int)) ?_; intro a75 hF76; clear hF74
   refine s1 hF76 27 (.bool (decide ((u1.length : Int) < 2))) ?_; intro a77 hF78; clear hF76
   refine nlH (hQ72 _ _ ?_); clear hQ72 hQ72Q
   refine cd hF78 (t := decide ((u1.length : Int) < 2)) (by kernel_rfl) (fun hb79 => ?_) (fun hb79 => ?_)
   · -- yes
    have hp80 := hp70.1 hb79; clear hp70
    refine sqH ?_; intro hQ81Q hQ81
    refine s1 hF78 28 (.agg #[.int .i64 0, .int .i64 0, .int .i64 0, .int .i64 0]) ?_; intro a82 hF83; clear hF78
    refine sr hF83 hM24 0 [.int .i64 0, .int .i64 0, .int .i64 0, .int .i64 0] (b := b11) (off := 0) (cs := [.int .i64 0, .int .i64 0, .int .i64 0, .int .i64 0]) (ty := 24) (u := .agg #[.int .i64 0, .int .i64 0, .int .i64 0, .int .i64 0]) (nog rfl _) rfl rfl (by kernel_rfl) (by kernel_rfl) (by kernel_rfl) (by kernel_rfl) (by kernel_rfl) (by kernel_rfl) (by kernel_rfl) ?_; intro wd84 hM85; clear hM24
    refine s1 hF83 7 (.int .i64 7) ?_; intro a86 hF87; clear hF83
    have hM88 : Mem w.heap.size [] w Z [.row b11 [.int .i64 0, .int .i64 0, .int .i64 0, .int .i64 0] 24, .row b6 [.int .i64 u0.Key, .int .i64 u0.Last, .int .i64 u0.Bad, .int .i64 u0.State] 24] Z wd84 := hM85; clear hM85
    refine nlH (hQ81 _ _ ?_); clear hQ81 hQ81Q
    refine wp_ret ?_
    refine thr ?_
    refine rt (fn := Try.f14) (v := .tuple #[.agg #[.int .i64 0, .int .i64 0, .int .i64 0, .int .i64 0], .int .i64 7]) hF87 (re2c hF87 (fn := Try.f14) rfl (ad := ⟨b11, 0, none⟩) (by kernel_rfl) (loadVar_run hM88 0 (b := b11) (k := 4) (vs := [.int .i64 0, .int .i64 0, .int .i64 0, .int .i64 0]) (ty := 24) rfl (by kernel_rfl) (by kernel_rfl)) (by kernel_rfl)) ?_
    exact ⟨((⟨0, 0, 0, 0⟩ : Guard), 7), rfl, hp80, hM88.below⟩
   · -- no
    have hp89 := hp70.2 hb79; clear hp70
    refine wp_skip ?_
    refine thn ?_
    refine wp_seq ?_
    refine sqH ?_; intro hQ90Q hQ90
    refine s1 hF78 29 (.slice ao1 u1.length cap2) ?_; intro a91 hF92; clear hF78
    refine s1 hF92 30 (.int .i64 (u1.length : Int)) ?_; intro a93 hF94; clear hF92
    refine s1 hF94 31 (.bool (decide ((u1.length : Int) > 64))) ?_; intro a95 hF96; clear hF94
    refine nlH (hQ90 _ _ ?_); clear hQ90 hQ90Q
    refine cd hF96 (t := decide ((u1.length : Int) > 64)) (by kernel_rfl) (fun hb97 => ?_) (fun hb97 => ?_)
    · -- yes
     have hp98 := hp89.1 hb97; clear hp89
     refine sqH ?_; intro hQ99Q hQ99
     refine s1 hF96 32 (.agg #[.int .i64 0, .int .i64 0, .int .i64 0, .int .i64 0]) ?_; intro a100 hF101; clear hF96
     refine sr hF101 hM24 0 [.int .i64 0, .int .i64 0, .int .i64 0, .int .i64 0] (b := b11) (off := 0) (cs := [.int .i64 0, .int .i64 0, .int .i64 0, .int .i64 0]) (ty := 24) (u := .agg #[.int .i64 0, .int .i64 0, .int .i64 0, .int .i64 0]) (nog rfl _) rfl rfl (by kernel_rfl) (by kernel_rfl) (by kernel_rfl) (by kernel_rfl) (by kernel_rfl) (by kernel_rfl) (by kernel_rfl) ?_; intro wd102 hM103; clear hM24
     refine s1 hF101 7 (.int .i64 2) ?_; intro a104 hF105; clear hF101
     have hM106 : Mem w.heap.size [] w Z [.row b11 [.int .i64 0, .int .i64 0, .int .i64 0, .int .i64 0] 24, .row b6 [.int .i64 u0.Key, .int .i64 u0.Last, .int .i64 u0.Bad, .int .i64 u0.State] 24] Z wd102 := hM103; clear hM103
     refine nlH (hQ99 _ _ ?_); clear hQ99 hQ99Q
     refine wp_ret ?_
     refine thr ?_
     refine rt (fn := Try.f14) (v := .tuple #[.agg #[.int .i64 0, .int .i64 0, .int .i64 0, .int .i64 0], .int .i64 2]) hF105 (re2c hF105 (fn := Try.f14) rfl (ad := ⟨b11, 0, none⟩) (by kernel_rfl) (loadVar_run hM106 0 (b := b11) (k := 4) (vs := [.int .i64 0, .int .i64 0, .int .i64 0, .int .i64 0]) (ty := 24) rfl (by kernel_rfl) (by kernel_rfl)) (by kernel_rfl)) ?_
     exact ⟨((⟨0, 0, 0, 0⟩ : Guard), 2), rfl, hp98, hM106.below⟩
    · -- no
     have hp107 := hp89.2 hb97; clear hp89
     refine wp_skip ?_
     refine thn ?_
     refine sqH ?_; intro hQ108Q hQ108
     refine s1 hF96 33 (.slice ao1 u1.length cap2) ?_; intro a109 hF110; clear hF96
     have hc111 := hp107.1; have hp112 := hp107.2; clear hp107
     refine ix hF110 (T := (tyInt .u8)) (xs := u1) hs3 (1 : Int) hc111 (k := .i64) (e := 5) (bytes := 1) (nog rfl _) rfl (by kernel_rfl) rfl (by kernel_rfl) (by kernel_rfl) (by kernel_rfl) ?_; intro b113 off114 cs115 q116 a120 hq117 hP118 hT119 hF121; clear hF110
     have hp122 := hp112 q116 hq117; clear hp112
     obtain rfl : cs115 = ([.int .u8 q116] : List Value) := hT119
     refine z1 hF121 hM24 35 hP118 0 (.int .u8 q116) rfl ?_; intro a123 hF124; clear hF121
     refine s1 hF124 36 (.int .u8 (bAnd .u8 q116 15)) ?_; intro a125 hF126; clear hF124
     refine s1 hF126 37 (.int .i64 (w64 (bAnd .u8 q116 15))) ?_; intro a127 hF128; clear hF126
     refine s1 hF128 9 (.int .i64 (w64 (bAnd .u8 q116 15))) ?_; intro a129 hF130; clear hF128
     refine nlH (hQ108 _ _ ?_); clear hQ108 hQ108Q
     refine sqH ?_; intro hQ131Q hQ131
     refine s1 hF130 38 (.func (.func 46) #[] #[.pointer (some ⟨b6, 0, none⟩)]) ?_; intro a132 hF133; clear hF130
     refine s1 hF133 10 (.func (.func 46) #[] #[.pointer (some ⟨b6, 0, none⟩)]) ?_; intro a134 hF135; clear hF133
     refine nlH (hQ131 _ _ ?_); clear hQ131 hQ131Q
     refine wp_seq ?_
     have hF136 : Fr 92 [] [⟨1, [], .slice ao1 u1.length cap2⟩, ⟨2, [], .int .i64 u2⟩, ⟨3, [], .pointer (some ⟨b6, 0, none⟩)⟩, ⟨6, [], .pointer (some ⟨b11, 0, none⟩)⟩, ⟨9, [], .int .i64 (w64 (bAnd .u8 q116 15))⟩, ⟨10, [], .func (.func 46) #[] #[.pointer (some ⟨b6, 0, none⟩)]⟩] a134 := hF135.region (by kernel_rfl) (by kernel_rfl); clear hF135
     rcases Bool.eq_false_or_eq_true (decide ((w64 (bAnd .u8 q116 15)) ≥ 15)) with hb137 | hb137
     · -- true
      have hp138 := hp122.1 hb137; clear hp122
      have hF139 : Fr 92 [] [⟨1, [], .slice ao1 u1.length cap2⟩, ⟨2, [], .int .i64 u2⟩, ⟨3, [], .pointer (some ⟨b6, 0, none⟩)⟩, ⟨6, [], .pointer (some ⟨b11, 0, none⟩)⟩, ⟨9, [], .int .i64 (w64 (bAnd .u8 q116 15))⟩, ⟨10, [], .func (.func 46) #[] #[.pointer (some ⟨b6, 0, none⟩)]⟩] a134 := hF136.region (by kernel_rfl) (by kernel_rfl); clear hF136
      refine sqQH mixed (by kernel_rfl) hM24 ?_; intro hQ140Q hQ140
      refine q1 hF139 39 (.int .i64 (w64 (bAnd .u8 q116 15))) ?_; intro a142 hF143; clear hF139
      refine q1 hF143 40 (.bool (decide ((w64 (bAnd .u8 q116 15)) ≥ 15))) ?_; intro a145 hF146; clear hF143
      have hF147 := hF146.reval (d := 40) (c := []) (v := .bool (decide ((w64 (bAnd .u8 q116 15)) ≥ 15))) (by kernel_rfl) (.bool true) (by rw [hb137]); clear hF146
      refine q1 hF147 41 (.bool true) ?_; intro a149 hF150; clear hF147
      refine qsk hF150 (b := true) rfl rfl (by kernel_rfl) (by kernel_rfl) rfl rfl (by kernel_rfl) ?_; intro a151 hF152; clear hF150
      refine qsk hF152 (b := true) rfl rfl (by kernel_rfl) (by kernel_rfl) rfl rfl (by kernel_rfl) ?_; intro a153 hF154; clear hF152
      refine qsk hF154 (b := true) rfl rfl (by kernel_rfl) (by kernel_rfl) rfl rfl (by kernel_rfl) ?_; intro a155 hF156; clear hF154
      refine qsk hF156 (b := true) rfl rfl (by kernel_rfl) (by kernel_rfl) rfl rfl (by kernel_rfl) ?_; intro a157 hF158; clear hF156
      refine qsk hF158 (b := true) rfl rfl (by kernel_rfl) (by kernel_rfl) rfl rfl (by kernel_rfl) ?_; intro a159 hF160; clear hF158
      refine qsk hF160 (b := true) rfl rfl (by kernel_rfl) (by kernel_rfl) rfl rfl (by kernel_rfl) ?_; intro a161 hF162; clear hF160
      refine qsk hF162 (b := true) rfl rfl (by kernel_rfl) (by kernel_rfl) rfl rfl (by kernel_rfl) ?_; intro a163 hF164; clear hF162
      refine qsk hF164 (b := true) rfl rfl (by kernel_rfl) (by kernel_rfl) rfl rfl (by kernel_rfl) ?_; intro a165 hF166; clear hF164
      refine q1 hF166 50 (.bool true) ?_; intro a168 hF169; clear hF166
      refine qnl (hQ140 _ ?_); clear hQ140 hQ140Q; intro wd170 hM171; clear hM24
      refine cdT hF169 (by kernel_rfl) ?_
      refine sqH ?_; intro hQ172Q hQ172
      refine s1 hF169 51 (.func (.func 46) #[] #[.pointer (some ⟨b6, 0, none⟩)]) ?_; intro a173 hF174; clear hF169
      refine cl hF174 46 #[.pointer (some ⟨b6, 0, none⟩)] (nog rfl _) rfl (by kernel_rfl) (by kernel_rfl) ?_
      refine (gbad_fun u0 b6 _ _ _ _ _ _ (hM171.perm (pk 1 rfl)) hM171.fz).mono ?_; rintro _ wd175 ⟨Z179, rfl, hle180, hm⟩; refine ⟨_, rfl, ?_⟩; intro a176 hF177; have hM178 := hm; clear hm hM171 hF174
      replace hs3 := hs3.mono hle180
      replace hP118 := hP118.mono hle180
      replace hle0 := Fz.le.trans hle0 hle180
      have hM181 : Mem w.heap.size [] w Z [.row b6 [.int .i64 (((gbadS u0).2.2).Key), .int .i64 (((gbadS u0).2.2).Last), .int .i64 (((gbadS u0).2.2).Bad), .int .i64 (((gbadS u0).2.2).State)] 24, .row b11 [.int .i64 0, .int .i64 0, .int .i64 0, .int .i64 0] 24] Z179 wd175 := hM178; clear hM178
      refine s1 hF177 53 (.agg #[.int .i64 (((gbadS u0).1).Key), .int .i64 (((gbadS u0).1).Last), .int .i64 (((gbadS u0).1).Bad), .int .i64 (((gbadS u0).1).State)]) ?_; intro a182 hF183; clear hF177
      refine s1 hF183 54 (.int .i64 ((gbadS u0).2.1)) ?_; intro a184 hF185; clear hF183
      refine sr hF185 hM181 1 [.int .i64 (((gbadS u0).1).Key), .int .i64 (((gbadS u0).1).Last), .int .i64 (((gbadS u0).1).Bad), .int .i64 (((gbadS u0).1).State)] (b := b11) (off := 0) (cs := [.int .i64 0, .int .i64 0, .int .i64 0, .int .i64 0]) (ty := 24) (u := .agg #[.int .i64 (((gbadS u0).1).Key), .int .i64 (((gbadS u0).1).Last), .int .i64 (((gbadS u0).1).Bad), .int .i64 (((gbadS u0).1).State)]) (nog rfl _) rfl rfl (by kernel_rfl) (by kernel_rfl) (by kernel_rfl) (by kernel_rfl) (by kernel_rfl) (by kernel_rfl) (by kernel_rfl) ?_; intro wd186 hM187; clear hM181
      refine s1 hF185 7 (.int .i64 ((gbadS u0).2.1)) ?_; intro a188 hF189; clear hF185
      have hM190 : Mem w.heap.size [] w Z [.row b6 [.int .i64 (((gbadS u0).2.2).Key), .int .i64 (((gbadS u0).2.2).Last), .int .i64 (((gbadS u0).2.2).Bad), .int .i64 (((gbadS u0).2.2).State)] 24, .row b11 [.int .i64 (((gbadS u0).1).Key), .int .i64 (((gbadS u0).1).Last), .int .i64 (((gbadS u0).1).Bad), .int .i64 (((gbadS u0).1).State)] 24] Z179 wd186 := hM187; clear hM187
      refine nlH (hQ172 _ _ ?_); clear hQ172 hQ172Q
      refine wp_ret ?_
      refine thr ?_
      refine rt (fn := Try.f14) (v := .tuple #[.agg #[.int .i64 (((gbadS u0).1).Key), .int .i64 (((gbadS u0).1).Last), .int .i64 (((gbadS u0).1).Bad), .int .i64 (((gbadS u0).1).State)], .int .i64 ((gbadS u0).2.1)]) hF189 (re2c hF189 (fn := Try.f14) rfl (ad := ⟨b11, 0, none⟩) (by kernel_rfl) (loadVar_run hM190 1 (b := b11) (k := 4) (vs := [.int .i64 (((gbadS u0).1).Key), .int .i64 (((gbadS u0).1).Last), .int .i64 (((gbadS u0).1).Bad), .int .i64 (((gbadS u0).1).State)]) (ty := 24) rfl (by kernel_rfl) (by kernel_rfl)) (by kernel_rfl)) ?_
      exact ⟨(((gbadS u0).1), (gbadS u0).2.1), rfl, hp138, hM190.below⟩
     · -- false
      have hp191 := hp122.2 hb137; clear hp122
      have hF192 : Fr 92 [] [⟨1, [], .slice ao1 u1.length cap2⟩, ⟨2, [], .int .i64 u2⟩, ⟨3, [], .pointer (some ⟨b6, 0, none⟩)⟩, ⟨6, [], .pointer (some ⟨b11, 0, none⟩)⟩, ⟨9, [], .int .i64 (w64 (bAnd .u8 q116 15))⟩, ⟨10, [], .func (.func 46) #[] #[.pointer (some ⟨b6, 0, none⟩)]⟩] a134 := hF136.region (by kernel_rfl) (by kernel_rfl); clear hF136
      refine sqQH mixed (by kernel_rfl) hM24 ?_; intro hQ193Q hQ193
      refine q1 hF192 39 (.int .i64 (w64 (bAnd .u8 q116 15))) ?_; intro a195 hF196; clear hF192
      refine q1 hF196 40 (.bool (decide ((w64 (bAnd .u8 q116 15)) ≥ 15))) ?_; intro a198 hF199; clear hF196
      have hF200 := hF199.reval (d := 40) (c := []) (v := .bool (decide ((w64 (bAnd .u8 q116 15)) ≥ 15))) (by kernel_rfl) (.bool false) (by rw [hb137]); clear hF199
      refine q1 hF200 41 (.bool false) ?_; intro a202 hF203; clear hF200
      refine qst hF203 (.slice ao1 u1.length cap2) (by rw [wanted_of hF203 (b := false) rfl rfl (by kernel_rfl) (by kernel_rfl)]; rfl) rfl (by kernel_rfl) (fun v204 hC => p0 hF203 (by kernel_rfl)) ?_; intro a205 hF206; clear hF203
      have hc208 := hp191.1; have hp209 := hp191.2; clear hp191
      refine qix hF206 (T := (tyInt .u8)) (xs := u1) hs3 (0 : Int) hc208 (k := .i64) (e := 5) (bytes := 1) (by rw [wanted_of hF206 (b := false) rfl rfl (by kernel_rfl) (by kernel_rfl)]; rfl) rfl (by kernel_rfl) rfl (by kernel_rfl) (by kernel_rfl) (by kernel_rfl) ?_; intro b210 off211 cs212 q213 a217 hq214 hP215 hT216 hF218; clear hF206
      have hp219 := hp209 q213 hq214; clear hp209
      obtain rfl : cs212 = ([.int .u8 q213] : List Value) := hT216
      refine qst hF218 (.int .u8 q213) (by rw [wanted_of hF218 (b := false) rfl rfl (by kernel_rfl) (by kernel_rfl)]; rfl) rfl (by kernel_rfl) (fun v220 hC => lz hF218 hC.fz hP215 0 (g := []) rfl (by kernel_rfl) (by kernel_rfl) (by kernel_rfl) rfl) ?_; intro a221 hF222; clear hF218
      refine qst hF222 (.pointer (some ⟨b6, 0, none⟩)) (by rw [wanted_of hF222 (b := false) rfl rfl (by kernel_rfl) (by kernel_rfl)]; rfl) rfl (by kernel_rfl) (fun v223 hC => p0 hF222 (by kernel_rfl)) ?_; intro a224 hF225; clear hF222
      refine qst hF225 (.int .i64 u0.Key) (by rw [wanted_of hF225 (b := false) rfl rfl (by kernel_rfl) (by kernel_rfl)]; rfl) rfl (by kernel_rfl) (fun v226 hC => ld hF225 hC 1 (g := []) (b := b6) (off := 0) (cs := [.int .i64 u0.Key, .int .i64 u0.Last, .int .i64 u0.Bad, .int .i64 u0.State]) (ty := 24) rfl (by kernel_rfl) (by kernel_rfl) (by kernel_rfl) (by kernel_rfl) rfl) ?_; intro a227 hF228; clear hF225
      refine qst hF228 (.slice ao1 u1.length cap2) (by rw [wanted_of hF228 (b := false) rfl rfl (by kernel_rfl) (by kernel_rfl)]; rfl) rfl (by kernel_rfl) (fun v229 hC => p0 hF228 (by kernel_rfl)) ?_; intro a230 hF231; clear hF228
      have hc233 := hp219.1; have hp234 := hp219.2; clear hp219
      refine qcl hF231 (.int .u8 (gsumS u0.Key u1)) 44 #[.int .i64 u0.Key, .slice ao1 u1.length cap2] (by rw [wanted_of hF231 (b := false) rfl rfl (by kernel_rfl) (by kernel_rfl)]; rfl) rfl (by kernel_rfl) (fun _ => by kernel_rfl) (qfc fun w hC => gsum_fun u0.Key u1 hc233 ao1 cap2 _ _ hs3 hC.fz) ?_; intro a235 hF236; clear hF231
      refine qst hF236 (.bool (q213 != (gsumS u0.Key u1))) (by rw [wanted_of hF236 (b := false) rfl rfl (by kernel_rfl) (by kernel_rfl)]; rfl) rfl (by kernel_rfl) (fun v237 hC => p0 hF236 (by kernel_rfl)) ?_; intro a238 hF239; clear hF236
      refine q1 hF239 50 (.bool (q213 != (gsumS u0.Key u1))) ?_; intro a241 hF242; clear hF239
      refine qnl (hQ193 _ ?_); clear hQ193 hQ193Q; intro wd243 hM244; clear hM24
      refine cd hF242 (t := q213 != (gsumS u0.Key u1)) (by kernel_rfl) (fun hb245 => ?_) (fun hb245 => ?_)
      · -- yes
       have hp246 := hp234.1 hb245; clear hp234
       refine sqH ?_; intro hQ247Q hQ247
       refine s1 hF242 51 (.func (.func 46) #[] #[.pointer (some ⟨b6, 0, none⟩)]) ?_; intro a248 hF249; clear hF242
       refine cl hF249 46 #[.pointer (some ⟨b6, 0, none⟩)] (nog rfl _) rfl (by kernel_rfl) (by kernel_rfl) ?_
       refine (gbad_fun u0 b6 _ _ _ _ _ _ (hM244.perm (pk 1 rfl)) hM244.fz).mono ?_; rintro _ wd250 ⟨Z254, rfl, hle255, hm⟩; refine ⟨_, rfl, ?_⟩; intro a251 hF252; have hM253 := hm; clear hm hM244 hF249
       replace hs3 := hs3.mono hle255
       replace hP118 := hP118.mono hle255
       replace hP215 := hP215.mono hle255
       replace hle0 := Fz.le.trans hle0 hle255
       have hM256 : Mem w.heap.size [] w Z [.row b6 [.int .i64 (((gbadS u0).2.2).Key), .int .i64 (((gbadS u0).2.2).Last), .int .i64 (((gbadS u0).2.2).Bad), .int .i64 (((gbadS u0).2.2).State)] 24, .row b11 [.int .i64 0, .int .i64 0, .int .i64 0, .int .i64 0] 24] Z254 wd250 := hM253; clear hM253
       refine s1 hF252 53 (.agg #[.int .i64 (((gbadS u0).1).Key), .int .i64 (((gbadS u0).1).Last), .int .i64 (((gbadS u0).1).Bad), .int .i64 (((gbadS u0).1).State)]) ?_; intro a257 hF258; clear hF252
       refine s1 hF258 54 (.int .i64 ((gbadS u0).2.1)) ?_; intro a259 hF260; clear hF258
       refine sr hF260 hM256 1 [.int .i64 (((gbadS u0).1).Key), .int .i64 (((gbadS u0).1).Last), .int .i64 (((gbadS u0).1).Bad), .int .i64 (((gbadS u0).1).State)] (b := b11) (off := 0) (cs := [.int .i64 0, .int .i64 0, .int .i64 0, .int .i64 0]) (ty := 24) (u := .agg #[.int .i64 (((gbadS u0).1).Key), .int .i64 (((gbadS u0).1).Last), .int .i64 (((gbadS u0).1).Bad), .int .i64 (((gbadS u0).1).State)]) (nog rfl _) rfl rfl (by kernel_rfl) (by kernel_rfl) (by kernel_rfl) (by kernel_rfl) (by kernel_rfl) (by kernel_rfl) (by kernel_rfl) ?_; intro wd261 hM262; clear hM256
       refine s1 hF260 7 (.int .i64 ((gbadS u0).2.1)) ?_; intro a263 hF264; clear hF260
       have hM265 : Mem w.heap.size [] w Z [.row b6 [.int .i64 (((gbadS u0).2.2).Key), .int .i64 (((gbadS u0).2.2).Last), .int .i64 (((gbadS u0).2.2).Bad), .int .i64 (((gbadS u0).2.2).State)] 24, .row b11 [.int .i64 (((gbadS u0).1).Key), .int .i64 (((gbadS u0).1).Last), .int .i64 (((gbadS u0).1).Bad), .int .i64 (((gbadS u0).1).State)] 24] Z254 wd261 := hM262; clear hM262
       refine nlH (hQ247 _ _ ?_); clear hQ247 hQ247Q
       refine wp_ret ?_
       refine thr ?_
       refine rt (fn := Try.f14) (v := .tuple #[.agg #[.int .i64 (((gbadS u0).1).Key), .int .i64 (((gbadS u0).1).Last), .int .i64 (((gbadS u0).1).Bad), .int .i64 (((gbadS u0).1).State)], .int .i64 ((gbadS u0).2.1)]) hF264 (re2c hF264 (fn := Try.f14) rfl (ad := ⟨b11, 0, none⟩) (by kernel_rfl) (loadVar_run hM265 1 (b := b11) (k := 4) (vs := [.int .i64 (((gbadS u0).1).Key), .int .i64 (((gbadS u0).1).Last), .int .i64 (((gbadS u0).1).Bad), .int .i64 (((gbadS u0).1).State)]) (ty := 24) rfl (by kernel_rfl) (by kernel_rfl)) (by kernel_rfl)) ?_
       exact ⟨(((gbadS u0).1), (gbadS u0).2.1), rfl, hp246, hM265.below⟩
      · -- no
       have hp266 := hp234.2 hb245; clear hp234
       refine wp_skip ?_
       refine thn ?_
       refine sqH ?_; intro hQ267Q hQ267
       refine s1 hF242 55 (.int .i64 (w64 (bAnd .u8 q116 15))) ?_; intro a268 hF269; clear hF242
       refine s1 hF269 56 (.pointer (some ⟨b6, 1, none⟩)) ?_; intro a270 hF271; clear hF269
       refine l1 hF271 hM244 57 1 1 (.int .i64 u0.Last) rfl rfl ?_; intro a272 hF273; clear hF271
       refine s1 hF273 58 (.int .i64 (w64 ((w64 (bAnd .u8 q116 15)) - u0.Last))) ?_; intro a274 hF275; clear hF273
       refine s1 hF275 59 (.int .i64 (w64 ((w64 ((w64 (bAnd .u8 q116 15)) - u0.Last)) + 15))) ?_; intro a276 hF277; clear hF275
       refine s1 hF277 60 (.int .i64 ((w64 ((w64 ((w64 (bAnd .u8 q116 15)) - u0.Last)) + 15)).tmod 15)) ?_; intro a278 hF279; clear hF277
       refine s1 hF279 11 (.int .i64 ((w64 ((w64 ((w64 (bAnd .u8 q116 15)) - u0.Last)) + 15)).tmod 15)) ?_; intro a280 hF281; clear hF279
       refine nlH (hQ267 _ _ ?_); clear hQ267 hQ267Q
       refine wp_seq ?_
       refine wp_block ?_
       have hF282 : Fr 92 [] [⟨2, [], .int .i64 u2⟩, ⟨3, [], .pointer (some ⟨b6, 0, none⟩)⟩, ⟨6, [], .pointer (some ⟨b11, 0, none⟩)⟩, ⟨9, [], .int .i64 (w64 (bAnd .u8 q116 15))⟩, ⟨10, [], .func (.func 46) #[] #[.pointer (some ⟨b6, 0, none⟩)]⟩, ⟨11, [], .int .i64 ((w64 ((w64 ((w64 (bAnd .u8 q116 15)) - u0.Last)) + 15)).tmod 15)⟩] a280 := hF281.region (by kernel_rfl) (by kernel_rfl); clear hF281
       refine sqH ?_; intro hQ283Q hQ283
       refine s1 hF282 68 (.pointer (some ⟨b6, 1, none⟩)) ?_; intro a284 hF285; clear hF282
       refine l1 hF285 hM244 69 1 1 (.int .i64 u0.Last) rfl rfl ?_; intro a286 hF287; clear hF285
       refine s1 hF287 70 (.bool (decide (u0.Last < 0))) ?_; intro a288 hF289; clear hF287
       refine s1 hF289 71 (.bool (decide (u0.Last < 0))) ?_; intro a290 hF291; clear hF289
       have hF292 := hF291.atom ((decide (u0.Last < 0)) == false) (by kernel_rfl); clear hF291
       refine gp hF292 72 0 [] (decide (u0.Last < 0)) (.int .i64 ((w64 ((w64 ((w64 (bAnd .u8 q116 15)) - u0.Last)) + 15)).tmod 15)) rfl rfl ?_; intro a293 hF294; clear hF292
       refine gp hF294 73 0 [] (decide (u0.Last < 0)) (.bool (((w64 ((w64 ((w64 (bAnd .u8 q116 15)) - u0.Last)) + 15)).tmod 15) == 1)) rfl rfl ?_; intro a295 hF296; clear hF294
       refine st hF296 (.bool ((decide (u0.Last < 0)) || (((w64 ((w64 ((w64 (bAnd .u8 q116 15)) - u0.Last)) + 15)).tmod 15) == 1))) (nog rfl _) rfl (by kernel_rfl) (pk_or hF296 (g := []) (m := 0) (b := decide (u0.Last < 0)) (v := ((w64 ((w64 ((w64 (bAnd .u8 q116 15)) - u0.Last)) + 15)).tmod 15) == 1) rfl (by kernel_rfl) (by kernel_rfl) (by kernel_rfl) rfl) ?_; intro a297 hF298; clear hF296
       refine s1 hF298 67 (.bool ((decide (u0.Last < 0)) || (((w64 ((w64 ((w64 (bAnd .u8 q116 15)) - u0.Last)) + 15)).tmod 15) == 1))) ?_; intro a299 hF300; clear hF298
       refine nlH (hQ283 _ _ ?_); clear hQ283 hQ283Q
       refine cd hF300 (t := (decide (u0.Last < 0)) || (((w64 ((w64 ((w64 (bAnd .u8 q116 15)) - u0.Last)) + 15)).tmod 15) == 1)) (by kernel_rfl) (fun hb301 => ?_) (fun hb301 => ?_)
       · -- yes
        have hp302 := hp266.1 hb301; clear hp266
        have hF303 : Fr 92 [] [⟨3, [], .pointer (some ⟨b6, 0, none⟩)⟩, ⟨6, [], .pointer (some ⟨b11, 0, none⟩)⟩, ⟨9, [], .int .i64 (w64 (bAnd .u8 q116 15))⟩] a299 := hF300.region (by kernel_rfl) (by kernel_rfl); clear hF300
        refine rgH ?_; intro hQ304Q hQ304
        refine s1 hF303 75 (.pointer (some ⟨b6, 3, none⟩)) ?_; intro a305 hF306; clear hF303
        refine sr hF306 hM244 1 [.int .i64 u0.Key, .int .i64 u0.Last, .int .i64 u0.Bad, .int .i64 1] (b := b6) (off := 3) (cs := [.int .i64 u0.Key, .int .i64 u0.Last, .int .i64 u0.Bad, .int .i64 u0.State]) (ty := 24) (u := .int .i64 1) (nog rfl _) rfl rfl (by kernel_rfl) (by kernel_rfl) (by kernel_rfl) (by kernel_rfl) (by kernel_rfl) (by kernel_rfl) (by kernel_rfl) ?_; intro wd307 hM308; clear hM244
        have hM309 : Mem w.heap.size [] w Z [.row b11 [.int .i64 0, .int .i64 0, .int .i64 0, .int .i64 0] 24, .row b6 [.int .i64 u0.Key, .int .i64 u0.Last, .int .i64 u0.Bad, .int .i64 1] 24] Z wd307 := hM308; clear hM308
        refine nlH (hQ304 _ _ ?_); clear hQ304 hQ304Q
        refine ibn ?_
        refine thn ?_
        refine sqH ?_; intro hQ310Q hQ310
        refine s1 hF306 85 (.int .i64 (w64 (bAnd .u8 q116 15))) ?_; intro a311 hF312; clear hF306
        refine s1 hF312 86 (.pointer (some ⟨b6, 1, none⟩)) ?_; intro a313 hF314; clear hF312
        refine sr hF314 hM309 1 [.int .i64 u0.Key, .int .i64 (w64 (bAnd .u8 q116 15)), .int .i64 u0.Bad, .int .i64 1] (b := b6) (off := 1) (cs := [.int .i64 u0.Key, .int .i64 u0.Last, .int .i64 u0.Bad, .int .i64 1]) (ty := 24) (u := .int .i64 (w64 (bAnd .u8 q116 15))) (nog rfl _) rfl rfl (by kernel_rfl) (by kernel_rfl) (by kernel_rfl) (by kernel_rfl) (by kernel_rfl) (by kernel_rfl) (by kernel_rfl) ?_; intro wd315 hM316; clear hM309
        have hM317 : Mem w.heap.size [] w Z [.row b11 [.int .i64 0, .int .i64 0, .int .i64 0, .int .i64 0] 24, .row b6 [.int .i64 u0.Key, .int .i64 (w64 (bAnd .u8 q116 15)), .int .i64 u0.Bad, .int .i64 1] 24] Z wd315 := hM316; clear hM316
        refine nlH (hQ310 _ _ ?_); clear hQ310 hQ310Q
        refine wp_seq ?_
        refine sqH ?_; intro hQ318Q hQ318
        refine s1 hF314 87 (.pointer (some ⟨b6, 3, none⟩)) ?_; intro a319 hF320; clear hF314
        refine l1 hF320 hM317 88 1 3 (.int .i64 1) rfl rfl ?_; intro a321 hF322; clear hF320
        refine s1 hF322 89 (.bool true) ?_; intro a323 hF324; clear hF322
        refine nlH (hQ318 _ _ ?_); clear hQ318 hQ318Q
        refine cdT hF324 (by kernel_rfl) ?_
        refine rgH ?_; intro hQ325Q hQ325
        refine s1 hF324 90 (.pointer (some ⟨b6, 2, none⟩)) ?_; intro a326 hF327; clear hF324
        refine sr hF327 hM317 1 [.int .i64 u0.Key, .int .i64 (w64 (bAnd .u8 q116 15)), .int .i64 0, .int .i64 1] (b := b6) (off := 2) (cs := [.int .i64 u0.Key, .int .i64 (w64 (bAnd .u8 q116 15)), .int .i64 u0.Bad, .int .i64 1]) (ty := 24) (u := .int .i64 0) (nog rfl _) rfl rfl (by kernel_rfl) (by kernel_rfl) (by kernel_rfl) (by kernel_rfl) (by kernel_rfl) (by kernel_rfl) (by kernel_rfl) ?_; intro wd328 hM329; clear hM317
        have hM330 : Mem w.heap.size [] w Z [.row b11 [.int .i64 0, .int .i64 0, .int .i64 0, .int .i64 0] 24, .row b6 [.int .i64 u0.Key, .int .i64 (w64 (bAnd .u8 q116 15)), .int .i64 0, .int .i64 1] 24] Z wd328 := hM329; clear hM329
        refine nlH (hQ325 _ _ ?_); clear hQ325 hQ325Q
        refine thn ?_
        refine sqH ?_; intro hQ331Q hQ331
        refine l2 hF327 hM330 91 1 0 4 [.int .i64 u0.Key, .int .i64 (w64 (bAnd .u8 q116 15)), .int .i64 0, .int .i64 1] rfl rfl ?_; intro a332 hF333; clear hF327
        refine sr hF333 hM330 0 [.int .i64 u0.Key, .int .i64 (w64 (bAnd .u8 q116 15)), .int .i64 0, .int .i64 1] (b := b11) (off := 0) (cs := [.int .i64 0, .int .i64 0, .int .i64 0, .int .i64 0]) (ty := 24) (u := .agg #[.int .i64 u0.Key, .int .i64 (w64 (bAnd .u8 q116 15)), .int .i64 0, .int .i64 1]) (nog rfl _) rfl rfl (by kernel_rfl) (by kernel_rfl) (by kernel_rfl) (by kernel_rfl) (by kernel_rfl) (by kernel_rfl) (by kernel_rfl) ?_; intro wd334 hM335; clear hM330
        refine s1 hF333 7 (.int .i64 0) ?_; intro a336 hF337; clear hF333
        have hM338 : Mem w.heap.size [] w Z [.row b11 [.int .i64 u0.Key, .int .i64 (w64 (bAnd .u8 q116 15)), .int .i64 0, .int .i64 1] 24, .row b6 [.int .i64 u0.Key, .int .i64 (w64 (bAnd .u8 q116 15)), .int .i64 0, .int .i64 1] 24] Z wd334 := hM335; clear hM335
        refine nlH (hQ331 _ _ ?_); clear hQ331 hQ331Q
        refine wp_ret ?_
        refine rt (fn := Try.f14) (v := .tuple #[.agg #[.int .i64 u0.Key, .int .i64 (w64 (bAnd .u8 q116 15)), .int .i64 0, .int .i64 1], .int .i64 0]) hF337 (re2c hF337 (fn := Try.f14) rfl (ad := ⟨b11, 0, none⟩) (by kernel_rfl) (loadVar_run hM338 0 (b := b11) (k := 4) (vs := [.int .i64 u0.Key, .int .i64 (w64 (bAnd .u8 q116 15)), .int .i64 0, .int .i64 1]) (ty := 24) rfl (by kernel_rfl) (by kernel_rfl)) (by kernel_rfl)) ?_
        exact ⟨((⟨u0.Key, w64 (bAnd .u8 q116 15), 0, 1⟩ : Guard), 0), rfl, hp302, hM338.below⟩
       · -- no
        have hp339 := hp266.2 hb301; clear hp266
        have hF340 : Fr 92 [] [⟨2, [], .int .i64 u2⟩, ⟨3, [], .pointer (some ⟨b6, 0, none⟩)⟩, ⟨6, [], .pointer (some ⟨b11, 0, none⟩)⟩, ⟨9, [], .int .i64 (w64 (bAnd .u8 q116 15))⟩, ⟨10, [], .func (.func 46) #[] #[.pointer (some ⟨b6, 0, none⟩)]⟩, ⟨11, [], .int .i64 ((w64 ((w64 ((w64 (bAnd .u8 q116 15)) - u0.Last)) + 15)).tmod 15)⟩] a299 := hF300.region (by kernel_rfl) (by kernel_rfl); clear hF300
        refine sqH ?_; intro hQ341Q hQ341
        refine s1 hF340 77 (.int .i64 ((w64 ((w64 ((w64 (bAnd .u8 q116 15)) - u0.Last)) + 15)).tmod 15)) ?_; intro a342 hF343; clear hF340
        refine s1 hF343 78 (.bool (((w64 ((w64 ((w64 (bAnd .u8 q116 15)) - u0.Last)) + 15)).tmod 15) == 0)) ?_; intro a344 hF345; clear hF343
        refine s1 hF345 76 (.bool (((w64 ((w64 ((w64 (bAnd .u8 q116 15)) - u0.Last)) + 15)).tmod 15) == 0)) ?_; intro a346 hF347; clear hF345
        refine nlH (hQ341 _ _ ?_); clear hQ341 hQ341Q
        refine cd hF347 (t := ((w64 ((w64 ((w64 (bAnd .u8 q116 15)) - u0.Last)) + 15)).tmod 15) == 0) (by kernel_rfl) (fun hb348 => ?_) (fun hb348 => ?_)
        · -- yes
         have hp349 := hp339.1 hb348; clear hp339
         refine rgH ?_; intro hQ350Q hQ350
         refine s1 hF347 79 (.pointer (some ⟨b6, 3, none⟩)) ?_; intro a351 hF352; clear hF347
         refine sr hF352 hM244 1 [.int .i64 u0.Key, .int .i64 u0.Last, .int .i64 u0.Bad, .int .i64 3] (b := b6) (off := 3) (cs := [.int .i64 u0.Key, .int .i64 u0.Last, .int .i64 u0.Bad, .int .i64 u0.State]) (ty := 24) (u := .int .i64 3) (nog rfl _) rfl rfl (by kernel_rfl) (by kernel_rfl) (by kernel_rfl) (by kernel_rfl) (by kernel_rfl) (by kernel_rfl) (by kernel_rfl) ?_; intro wd353 hM354; clear hM244
         have hM355 : Mem w.heap.size [] w Z [.row b11 [.int .i64 0, .int .i64 0, .int .i64 0, .int .i64 0] 24, .row b6 [.int .i64 u0.Key, .int .i64 u0.Last, .int .i64 u0.Bad, .int .i64 3] 24] Z wd353 := hM354; clear hM354
         refine nlH (hQ350 _ _ ?_); clear hQ350 hQ350Q
         refine ibn ?_
         refine thn ?_
         refine sqH ?_; intro hQ356Q hQ356
         refine s1 hF352 85 (.int .i64 (w64 (bAnd .u8 q116 15))) ?_; intro a357 hF358; clear hF352
         refine s1 hF358 86 (.pointer (some ⟨b6, 1, none⟩)) ?_; intro a359 hF360; clear hF358
         refine sr hF360 hM355 1 [.int .i64 u0.Key, .int .i64 (w64 (bAnd .u8 q116 15)), .int .i64 u0.Bad, .int .i64 3] (b := b6) (off := 1) (cs := [.int .i64 u0.Key, .int .i64 u0.Last, .int .i64 u0.Bad, .int .i64 3]) (ty := 24) (u := .int .i64 (w64 (bAnd .u8 q116 15))) (nog rfl _) rfl rfl (by kernel_rfl) (by kernel_rfl) (by kernel_rfl) (by kernel_rfl) (by kernel_rfl) (by kernel_rfl) (by kernel_rfl) ?_; intro wd361 hM362; clear hM355
         have hM363 : Mem w.heap.size [] w Z [.row b11 [.int .i64 0, .int .i64 0, .int .i64 0, .int .i64 0] 24, .row b6 [.int .i64 u0.Key, .int .i64 (w64 (bAnd .u8 q116 15)), .int .i64 u0.Bad, .int .i64 3] 24] Z wd361 := hM362; clear hM362
         refine nlH (hQ356 _ _ ?_); clear hQ356 hQ356Q
         refine wp_seq ?_
         refine sqH ?_; intro hQ364Q hQ364
         refine s1 hF360 87 (.pointer (some ⟨b6, 3, none⟩)) ?_; intro a365 hF366; clear hF360
         refine l1 hF366 hM363 88 1 3 (.int .i64 3) rfl rfl ?_; intro a367 hF368; clear hF366
         refine s1 hF368 89 (.bool false) ?_; intro a369 hF370; clear hF368
         refine nlH (hQ364 _ _ ?_); clear hQ364 hQ364Q
         refine cdF hF370 (by kernel_rfl) ?_
         refine wp_skip ?_
         refine thn ?_
         refine sqH ?_; intro hQ371Q hQ371
         refine l2 hF370 hM363 91 1 0 4 [.int .i64 u0.Key, .int .i64 (w64 (bAnd .u8 q116 15)), .int .i64 u0.Bad, .int .i64 3] rfl rfl ?_; intro a372 hF373; clear hF370
         refine sr hF373 hM363 0 [.int .i64 u0.Key, .int .i64 (w64 (bAnd .u8 q116 15)), .int .i64 u0.Bad, .int .i64 3] (b := b11) (off := 0) (cs := [.int .i64 0, .int .i64 0, .int .i64 0, .int .i64 0]) (ty := 24) (u := .agg #[.int .i64 u0.Key, .int .i64 (w64 (bAnd .u8 q116 15)), .int .i64 u0.Bad, .int .i64 3]) (nog rfl _) rfl rfl (by kernel_rfl) (by kernel_rfl) (by kernel_rfl) (by kernel_rfl) (by kernel_rfl) (by kernel_rfl) (by kernel_rfl) ?_; intro wd374 hM375; clear hM363
         refine s1 hF373 7 (.int .i64 0) ?_; intro a376 hF377; clear hF373
         have hM378 : Mem w.heap.size [] w Z [.row b11 [.int .i64 u0.Key, .int .i64 (w64 (bAnd .u8 q116 15)), .int .i64 u0.Bad, .int .i64 3] 24, .row b6 [.int .i64 u0.Key, .int .i64 (w64 (bAnd .u8 q116 15)), .int .i64 u0.Bad, .int .i64 3] 24] Z wd374 := hM375; clear hM375
         refine nlH (hQ371 _ _ ?_); clear hQ371 hQ371Q
         refine wp_ret ?_
         refine rt (fn := Try.f14) (v := .tuple #[.agg #[.int .i64 u0.Key, .int .i64 (w64 (bAnd .u8 q116 15)), .int .i64 u0.Bad, .int .i64 3], .int .i64 0]) hF377 (re2c hF377 (fn := Try.f14) rfl (ad := ⟨b11, 0, none⟩) (by kernel_rfl) (loadVar_run hM378 0 (b := b11) (k := 4) (vs := [.int .i64 u0.Key, .int .i64 (w64 (bAnd .u8 q116 15)), .int .i64 u0.Bad, .int .i64 3]) (ty := 24) rfl (by kernel_rfl) (by kernel_rfl)) (by kernel_rfl)) ?_
         exact ⟨((⟨u0.Key, w64 (bAnd .u8 q116 15), u0.Bad, 3⟩ : Guard), 0), rfl, hp349, hM378.below⟩
        · -- no
         have hp379 := hp339.2 hb348; clear hp339
         refine sqH ?_; intro hQ380Q hQ380
         refine s1 hF347 81 (.int .i64 ((w64 ((w64 ((w64 (bAnd .u8 q116 15)) - u0.Last)) + 15)).tmod 15)) ?_; intro a381 hF382; clear hF347
         refine s1 hF382 82 (.int .i64 u2) ?_; intro a383 hF384; clear hF382
         refine s1 hF384 83 (.bool (decide (((w64 ((w64 ((w64 (bAnd .u8 q116 15)) - u0.Last)) + 15)).tmod 15) ≤ u2))) ?_; intro a385 hF386; clear hF384
         refine s1 hF386 80 (.bool (decide (((w64 ((w64 ((w64 (bAnd .u8 q116 15)) - u0.Last)) + 15)).tmod 15) ≤ u2))) ?_; intro a387 hF388; clear hF386
         refine nlH (hQ380 _ _ ?_); clear hQ380 hQ380Q
         refine cd hF388 (t := decide (((w64 ((w64 ((w64 (bAnd .u8 q116 15)) - u0.Last)) + 15)).tmod 15) ≤ u2)) (by kernel_rfl) (fun hb389 => ?_) (fun hb389 => ?_)
         · -- yes
          have hp390 := hp379.1 hb389; clear hp379
          refine rgH ?_; intro hQ391Q hQ391
          refine s1 hF388 84 (.pointer (some ⟨b6, 3, none⟩)) ?_; intro a392 hF393; clear hF388
          refine sr hF393 hM244 1 [.int .i64 u0.Key, .int .i64 u0.Last, .int .i64 u0.Bad, .int .i64 2] (b := b6) (off := 3) (cs := [.int .i64 u0.Key, .int .i64 u0.Last, .int .i64 u0.Bad, .int .i64 u0.State]) (ty := 24) (u := .int .i64 2) (nog rfl _) rfl rfl (by kernel_rfl) (by kernel_rfl) (by kernel_rfl) (by kernel_rfl) (by kernel_rfl) (by kernel_rfl) (by kernel_rfl) ?_; intro wd394 hM395; clear hM244
          have hM396 : Mem w.heap.size [] w Z [.row b11 [.int .i64 0, .int .i64 0, .int .i64 0, .int .i64 0] 24, .row b6 [.int .i64 u0.Key, .int .i64 u0.Last, .int .i64 u0.Bad, .int .i64 2] 24] Z wd394 := hM395; clear hM395
          refine nlH (hQ391 _ _ ?_); clear hQ391 hQ391Q
          refine ibn ?_
          refine thn ?_
          refine sqH ?_; intro hQ397Q hQ397
          refine s1 hF393 85 (.int .i64 (w64 (bAnd .u8 q116 15))) ?_; intro a398 hF399; clear hF393
          refine s1 hF399 86 (.pointer (some ⟨b6, 1, none⟩)) ?_; intro a400 hF401; clear hF399
          refine sr hF401 hM396 1 [.int .i64 u0.Key, .int .i64 (w64 (bAnd .u8 q116 15)), .int .i64 u0.Bad, .int .i64 2] (b := b6) (off := 1) (cs := [.int .i64 u0.Key, .int .i64 u0.Last, .int .i64 u0.Bad, .int .i64 2]) (ty := 24) (u := .int .i64 (w64 (bAnd .u8 q116 15))) (nog rfl _) rfl rfl (by kernel_rfl) (by kernel_rfl) (by kernel_rfl) (by kernel_rfl) (by kernel_rfl) (by kernel_rfl) (by kernel_rfl) ?_; intro wd402 hM403; clear hM396
          have hM404 : Mem w.heap.size [] w Z [.row b11 [.int .i64 0, .int .i64 0, .int .i64 0, .int .i64 0] 24, .row b6 [.int .i64 u0.Key, .int .i64 (w64 (bAnd .u8 q116 15)), .int .i64 u0.Bad, .int .i64 2] 24] Z wd402 := hM403; clear hM403
          refine nlH (hQ397 _ _ ?_); clear hQ397 hQ397Q
          refine wp_seq ?_
          refine sqH ?_; intro hQ405Q hQ405
          refine s1 hF401 87 (.pointer (some ⟨b6, 3, none⟩)) ?_; intro a406 hF407; clear hF401
          refine l1 hF407 hM404 88 1 3 (.int .i64 2) rfl rfl ?_; intro a408 hF409; clear hF407
          refine s1 hF409 89 (.bool true) ?_; intro a410 hF411; clear hF409
          refine nlH (hQ405 _ _ ?_); clear hQ405 hQ405Q
          refine cdT hF411 (by kernel_rfl) ?_
          refine rgH ?_; intro hQ412Q hQ412
          refine s1 hF411 90 (.pointer (some ⟨b6, 2, none⟩)) ?_; intro a413 hF414; clear hF411
          refine sr hF414 hM404 1 [.int .i64 u0.Key, .int .i64 (w64 (bAnd .u8 q116 15)), .int .i64 0, .int .i64 2] (b := b6) (off := 2) (cs := [.int .i64 u0.Key, .int .i64 (w64 (bAnd .u8 q116 15)), .int .i64 u0.Bad, .int .i64 2]) (ty := 24) (u := .int .i64 0) (nog rfl _) rfl rfl (by kernel_rfl) (by kernel_rfl) (by kernel_rfl) (by kernel_rfl) (by kernel_rfl) (by kernel_rfl) (by kernel_rfl) ?_; intro wd415 hM416; clear hM404
          have hM417 : Mem w.heap.size [] w Z [.row b11 [.int .i64 0, .int .i64 0, .int .i64 0, .int .i64 0] 24, .row b6 [.int .i64 u0.Key, .int .i64 (w64 (bAnd .u8 q116 15)), .int .i64 0, .int .i64 2] 24] Z wd415 := hM416; clear hM416
          refine nlH (hQ412 _ _ ?_); clear hQ412 hQ412Q
          refine thn ?_
          have hF418 : Fr 92 [] [⟨3, [], .pointer (some ⟨b6, 0, none⟩)⟩, ⟨6, [], .pointer (some ⟨b11, 0, none⟩)⟩] a413 := hF414.region (by kernel_rfl) (by kernel_rfl); clear hF414
          refine sqH ?_; intro hQ419Q hQ419
          refine l2 hF418 hM417 91 1 0 4 [.int .i64 u0.Key, .int .i64 (w64 (bAnd .u8 q116 15)), .int .i64 0, .int .i64 2] rfl rfl ?_; intro a420 hF421; clear hF418
          refine sr hF421 hM417 0 [.int .i64 u0.Key, .int .i64 (w64 (bAnd .u8 q116 15)), .int .i64 0, .int .i64 2] (b := b11) (off := 0) (cs := [.int .i64 0, .int .i64 0, .int .i64 0, .int .i64 0]) (ty := 24) (u := .agg #[.int .i64 u0.Key, .int .i64 (w64 (bAnd .u8 q116 15)), .int .i64 0, .int .i64 2]) (nog rfl _) rfl rfl (by kernel_rfl) (by kernel_rfl) (by kernel_rfl) (by kernel_rfl) (by kernel_rfl) (by kernel_rfl) (by kernel_rfl) ?_; intro wd422 hM423; clear hM417
          refine s1 hF421 7 (.int .i64 0) ?_; intro a424 hF425; clear hF421
          have hM426 : Mem w.heap.size [] w Z [.row b11 [.int .i64 u0.Key, .int .i64 (w64 (bAnd .u8 q116 15)), .int .i64 0, .int .i64 2] 24, .row b6 [.int .i64 u0.Key, .int .i64 (w64 (bAnd .u8 q116 15)), .int .i64 0, .int .i64 2] 24] Z wd422 := hM423; clear hM423
          refine nlH (hQ419 _ _ ?_); clear hQ419 hQ419Q
          refine wp_ret ?_
          refine rt (fn := Try.f14) (v := .tuple #[.agg #[.int .i64 u0.Key, .int .i64 (w64 (bAnd .u8 q116 15)), .int .i64 0, .int .i64 2], .int .i64 0]) hF425 (re2c hF425 (fn := Try.f14) rfl (ad := ⟨b11, 0, none⟩) (by kernel_rfl) (loadVar_run hM426 0 (b := b11) (k := 4) (vs := [.int .i64 u0.Key, .int .i64 (w64 (bAnd .u8 q116 15)), .int .i64 0, .int .i64 2]) (ty := 24) rfl (by kernel_rfl) (by kernel_rfl)) (by kernel_rfl)) ?_
          exact ⟨((⟨u0.Key, w64 (bAnd .u8 q116 15), 0, 2⟩ : Guard), 0), rfl, hp390, hM426.below⟩
         · -- no
          have hp427 := hp379.2 hb389; clear hp379
          refine sqH ?_; intro hQ428Q hQ428
          refine s1 hF388 61 (.int .i64 (w64 (bAnd .u8 q116 15))) ?_; intro a429 hF430; clear hF388
          refine s1 hF430 62 (.pointer (some ⟨b6, 1, none⟩)) ?_; intro a431 hF432; clear hF430
          refine sr hF432 hM244 1 [.int .i64 u0.Key, .int .i64 (w64 (bAnd .u8 q116 15)), .int .i64 u0.Bad, .int .i64 u0.State] (b := b6) (off := 1) (cs := [.int .i64 u0.Key, .int .i64 u0.Last, .int .i64 u0.Bad, .int .i64 u0.State]) (ty := 24) (u := .int .i64 (w64 (bAnd .u8 q116 15))) (nog rfl _) rfl rfl (by kernel_rfl) (by kernel_rfl) (by kernel_rfl) (by kernel_rfl) (by kernel_rfl) (by kernel_rfl) (by kernel_rfl) ?_; intro wd433 hM434; clear hM244
          have hM435 : Mem w.heap.size [] w Z [.row b11 [.int .i64 0, .int .i64 0, .int .i64 0, .int .i64 0] 24, .row b6 [.int .i64 u0.Key, .int .i64 (w64 (bAnd .u8 q116 15)), .int .i64 u0.Bad, .int .i64 u0.State] 24] Z wd433 := hM434; clear hM434
          refine nlH (hQ428 _ _ ?_); clear hQ428 hQ428Q
          refine sqH ?_; intro hQ436Q hQ436
          refine s1 hF432 63 (.func (.func 46) #[] #[.pointer (some ⟨b6, 0, none⟩)]) ?_; intro a437 hF438; clear hF432
          refine cl hF438 46 #[.pointer (some ⟨b6, 0, none⟩)] (nog rfl _) rfl (by kernel_rfl) (by kernel_rfl) ?_
          refine (gbad_fun (⟨u0.Key, w64 (bAnd .u8 q116 15), u0.Bad, u0.State⟩ : Guard) b6 _ _ _ _ _ _ (hM435.perm (pk 1 rfl)) hM435.fz).mono ?_; rintro _ wd439 ⟨Z443, rfl, hle444, hm⟩; refine ⟨_, rfl, ?_⟩; intro a440 hF441; have hM442 := hm; clear hm hM435 hF438
          replace hs3 := hs3.mono hle444
          replace hP118 := hP118.mono hle444
          replace hP215 := hP215.mono hle444
          replace hle0 := Fz.le.trans hle0 hle444
          have hM445 : Mem w.heap.size [] w Z [.row b6 [.int .i64 (((gbadS (⟨u0.Key, w64 (bAnd .u8 q116 15), u0.Bad, u0.State⟩ : Guard)).2.2).Key), .int .i64 (((gbadS (⟨u0.Key, w64 (bAnd .u8 q116 15), u0.Bad, u0.State⟩ : Guard)).2.2).Last), .int .i64 (((gbadS (⟨u0.Key, w64 (bAnd .u8 q116 15), u0.Bad, u0.State⟩ : Guard)).2.2).Bad), .int .i64 (((gbadS (⟨u0.Key, w64 (bAnd .u8 q116 15), u0.Bad, u0.State⟩ : Guard)).2.2).State)] 24, .row b11 [.int .i64 0, .int .i64 0, .int .i64 0, .int .i64 0] 24] Z443 wd439 := hM442; clear hM442
          refine s1 hF441 65 (.agg #[.int .i64 (((gbadS (⟨u0.Key, w64 (bAnd .u8 q116 15), u0.Bad, u0.State⟩ : Guard)).1).Key), .int .i64 (((gbadS (⟨u0.Key, w64 (bAnd .u8 q116 15), u0.Bad, u0.State⟩ : Guard)).1).Last), .int .i64 (((gbadS (⟨u0.Key, w64 (bAnd .u8 q116 15), u0.Bad, u0.State⟩ : Guard)).1).Bad), .int .i64 (((gbadS (⟨u0.Key, w64 (bAnd .u8 q116 15), u0.Bad, u0.State⟩ : Guard)).1).State)]) ?_; intro a446 hF447; clear hF441
          refine s1 hF447 66 (.int .i64 ((gbadS (⟨u0.Key, w64 (bAnd .u8 q116 15), u0.Bad, u0.State⟩ : Guard)).2.1)) ?_; intro a448 hF449; clear hF447
          refine sr hF449 hM445 1 [.int .i64 (((gbadS (⟨u0.Key, w64 (bAnd .u8 q116 15), u0.Bad, u0.State⟩ : Guard)).1).Key), .int .i64 (((gbadS (⟨u0.Key, w64 (bAnd .u8 q116 15), u0.Bad, u0.State⟩ : Guard)).1).Last), .int .i64 (((gbadS (⟨u0.Key, w64 (bAnd .u8 q116 15), u0.Bad, u0.State⟩ : Guard)).1).Bad), .int .i64 (((gbadS (⟨u0.Key, w64 (bAnd .u8 q116 15), u0.Bad, u0.State⟩ : Guard)).1).State)] (b := b11) (off := 0) (cs := [.int .i64 0, .int .i64 0, .int .i64 0, .int .i64 0]) (ty := 24) (u := .agg #[.int .i64 (((gbadS (⟨u0.Key, w64 (bAnd .u8 q116 15), u0.Bad, u0.State⟩ : Guard)).1).Key), .int .i64 (((gbadS (⟨u0.Key, w64 (bAnd .u8 q116 15), u0.Bad, u0.State⟩ : Guard)).1).Last), .int .i64 (((gbadS (⟨u0.Key, w64 (bAnd .u8 q116 15), u0.Bad, u0.State⟩ : Guard)).1).Bad), .int .i64 (((gbadS (⟨u0.Key, w64 (bAnd .u8 q116 15), u0.Bad, u0.State⟩ : Guard)).1).State)]) (nog rfl _) rfl rfl (by kernel_rfl) (by kernel_rfl) (by kernel_rfl) (by kernel_rfl) (by kernel_rfl) (by kernel_rfl) (by kernel_rfl) ?_; intro wd450 hM451; clear hM445
          refine s1 hF449 7 (.int .i64 ((gbadS (⟨u0.Key, w64 (bAnd .u8 q116 15), u0.Bad, u0.State⟩ : Guard)).2.1)) ?_; intro a452 hF453; clear hF449
          have hM454 : Mem w.heap.size [] w Z [.row b6 [.int .i64 (((gbadS (⟨u0.Key, w64 (bAnd .u8 q116 15), u0.Bad, u0.State⟩ : Guard)).2.2).Key), .int .i64 (((gbadS (⟨u0.Key, w64 (bAnd .u8 q116 15), u0.Bad, u0.State⟩ : Guard)).2.2).Last), .int .i64 (((gbadS (⟨u0.Key, w64 (bAnd .u8 q116 15), u0.Bad, u0.State⟩ : Guard)).2.2).Bad), .int .i64 (((gbadS (⟨u0.Key, w64 (bAnd .u8 q116 15), u0.Bad, u0.State⟩ : Guard)).2.2).State)] 24, .row b11 [.int .i64 (((gbadS (⟨u0.Key, w64 (bAnd .u8 q116 15), u0.Bad, u0.State⟩ : Guard)).1).Key), .int .i64 (((gbadS (⟨u0.Key, w64 (bAnd .u8 q116 15), u0.Bad, u0.State⟩ : Guard)).1).Last), .int .i64 (((gbadS (⟨u0.Key, w64 (bAnd .u8 q116 15), u0.Bad, u0.State⟩ : Guard)).1).Bad), .int .i64 (((gbadS (⟨u0.Key, w64 (bAnd .u8 q116 15), u0.Bad, u0.State⟩ : Guard)).1).State)] 24] Z443 wd450 := hM451; clear hM451
          refine nlH (hQ436 _ _ ?_); clear hQ436 hQ436Q
          refine wp_ret ?_
          refine ibr ?_
          refine thr ?_
          refine rt (fn := Try.f14) (v := .tuple #[.agg #[.int .i64 (((gbadS (⟨u0.Key, w64 (bAnd .u8 q116 15), u0.Bad, u0.State⟩ : Guard)).1).Key), .int .i64 (((gbadS (⟨u0.Key, w64 (bAnd .u8 q116 15), u0.Bad, u0.State⟩ : Guard)).1).Last), .int .i64 (((gbadS (⟨u0.Key, w64 (bAnd .u8 q116 15), u0.Bad, u0.State⟩ : Guard)).1).Bad), .int .i64 (((gbadS (⟨u0.Key, w64 (bAnd .u8 q116 15), u0.Bad, u0.State⟩ : Guard)).1).State)], .int .i64 ((gbadS (⟨u0.Key, w64 (bAnd .u8 q116 15), u0.Bad, u0.State⟩ : Guard)).2.1)]) hF453 (re2c hF453 (fn := Try.f14) rfl (ad := ⟨b11, 0, none⟩) (by kernel_rfl) (loadVar_run hM454 1 (b := b11) (k := 4) (vs := [.int .i64 (((gbadS (⟨u0.Key, w64 (bAnd .u8 q116 15), u0.Bad, u0.State⟩ : Guard)).1).Key), .int .i64 (((gbadS (⟨u0.Key, w64 (bAnd .u8 q116 15), u0.Bad, u0.State⟩ : Guard)).1).Last), .int .i64 (((gbadS (⟨u0.Key, w64 (bAnd .u8 q116 15), u0.Bad, u0.State⟩ : Guard)).1).Bad), .int .i64 (((gbadS (⟨u0.Key, w64 (bAnd .u8 q116 15), u0.Bad, u0.State⟩ : Guard)).1).State)]) (ty := 24) rfl (by kernel_rfl) (by kernel_rfl)) (by kernel_rfl)) ?_
          exact ⟨(((gbadS (⟨u0.Key, w64 (bAnd .u8 q116 15), u0.Bad, u0.State⟩ : Guard)).1), (gbadS (⟨u0.Key, w64 (bAnd .u8 q116 15), u0.Bad, u0.State⟩ : Guard)).2.1), rfl, hp427, hM454.below⟩

end Go.Proofs.Ytginlmgkimfjmaa
