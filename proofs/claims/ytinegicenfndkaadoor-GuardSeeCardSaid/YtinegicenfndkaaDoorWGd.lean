/- The walks, made by program: each call does what its pure predicate says. -/
import Derived.Test.YtinegicenfndkaaDoorPGd
import Derived.Test.YtinegicenfndkaaDoorWGc
set_option linter.unusedVariables false
set_option linter.unusedSimpArgs false
namespace Go.Proofs.YtinegicenfndkaaDoor
open Go.Sy Go.RowKit
theorem gbad_fun (u0 : Guard) (b1 : Nat) (B : Nat) (w0 : World) (Z0 : Fz) (Rr : List Res) (Z : Fz) (w : World) (hM0 : Mem B [] w0 Z0 ((.row b1 [.int .i64 u0.Key, .int .i64 u0.Last, .int .i64 u0.Bad, .int .i64 u0.State] 62) :: Rr) Z w) (hZ : Z.on w) : Calls Tryd.prog 74 #[.pointer (some ⟨b1, 0, none⟩)] w fun e w' => ∃ (Z' : Fz), e = .returned (.tuple #[.agg #[.int .i64 (gbadS u0).1.Key, .int .i64 (gbadS u0).1.Last, .int .i64 (gbadS u0).1.Bad, .int .i64 (gbadS u0).1.State], .int .i64 (gbadS u0).2.1]) ∧ Fz.le Z Z' ∧ Mem B [] w0 Z0 ((.row b1 [.int .i64 (gbadS u0).2.2.Key, .int .i64 (gbadS u0).2.2.Last, .int .i64 (gbadS u0).2.2.Bad, .int .i64 (gbadS u0).2.2.State] 62) :: Rr) Z' w' :=
  (gbad_walk u0 b1 B w0 Z0 Rr Z w hM0 hZ (gbad_ok u0)).mono fun _ _ ⟨r, h0, he, hk, f0, hm⟩ => by subst hk; exact ⟨h0, he, f0, hm⟩

theorem gput_fun (u0 : Int) (u1 : Int) (u2 : List Int) (hpre : ∀ x ∈ u2, 0 ≤ x ∧ x ≤ 255) (ao1 : Option Addr) (cap2 : Nat) (Z : Fz) (w : World) (hs3 : SlR (tyInt .u8) Z ao1 cap2 u2) (hZ : Z.on w) : Calls Tryd.prog 44 #[.int .i64 u0, .int .i64 u1, .slice ao1 u2.length cap2] w fun e w' => ∃ (ao1001 : Option Addr) (cap1002 : Nat) (Z' : Fz), e = .returned (.tuple #[.slice ao1001 (gputS u0 u1 u2).1.length cap1002, .int .i64 (gputS u0 u1 u2).2]) ∧ Mem w.heap.size [] w Z [.own (tyInt .u8) 5 ao1001 cap1002 (gputS u0 u1 u2).1] Z' w' :=
  (gput_walk u0 u1 u2 ao1 cap2 Z w hs3 hZ (gput_ok u0 u1 u2 hpre)).mono fun _ _ ⟨r, h0, h1, h2, he, hk, hm⟩ => by subst hk; exact ⟨h0, h1, h2, he, hm⟩

set_option maxRecDepth 100000 in
set_option maxHeartbeats 0 in
theorem gsee_walk (u0 : Guard) (u1 : List Int) (u2 : Int) (ao1 : Option Addr) (cap2 : Nat) (Z : Fz) (w : World) (hs3 : SlR (tyInt .u8) Z ao1 cap2 u1) (hZ : Z.on w) {K : (Guard × Int) → Prop} (hp : gsee_vc u0 u1 u2 K) : Calls Tryd.prog 39 #[.agg #[.int .i64 u0.Key, .int .i64 u0.Last, .int .i64 u0.Bad, .int .i64 u0.State], .slice ao1 u1.length cap2, .int .i64 u2] w fun e w' => ∃ r : Guard × Int, e = .returned (.tuple #[.agg #[.int .i64 r.1.Key, .int .i64 r.1.Last, .int .i64 r.1.Bad, .int .i64 r.1.State], .int .i64 r.2]) ∧ K r ∧ Below w.heap.size w w' := by
 refine enter0 Tryd.func39 rfl rfl (by kernel_rfl) ?_; intro a0 hF0; have hM0 := Mem.start w Z hZ; have hle0 := Fz.le.refl Z
 have hp4 := hp (hs3.small); clear hp
 refine sqH ?_; intro hQ5Q hQ5
 refine sn hF0 hM0 (fun b => .pointer (some ⟨b, 0, none⟩)) [.int .i64 u0.Key, .int .i64 u0.Last, .int .i64 u0.Bad, .int .i64 u0.State] 62 (nog rfl _) rfl (by kernel_rfl) (by kernel_rfl) ?_; intro b6 a7 wd9 hF8 hM10; clear hF0 hM0
 refine sn hF8 hM10 (fun b => .pointer (some ⟨b, 0, none⟩)) [.int .i64 0, .int .i64 0, .int .i64 0, .int .i64 0] 62 (nog rfl _) rfl (by kernel_rfl) (by kernel_rfl) ?_; intro b11 a12 wd14 hF13 hM15; clear hF8 hM10
 refine s1 hF13 7 (.int .i64 0) ?_; intro a16 hF17; clear hF13
 refine nlH (hQ5 _ _ ?_); clear hQ5 hQ5Q
 refine wp_seq ?_
 refine sqH ?_; intro hQ18Q hQ18
 refine l2 hF17 hM15 12 1 0 4 [.int .i64 u0.Key, .int .i64 u0.Last, .int .i64 u0.Bad, .int .i64 u0.State] rfl rfl ?_; intro a19 hF20; clear hF17
 refine fcl hF20 hM15 (.int .i64 (gcheck u0)) 41 #[.agg #[.int .i64 u0.Key, .int .i64 u0.Last, .int .i64 u0.Bad, .int .i64 u0.State]] (nog rfl _) rfl (by kernel_rfl) (fun _ => by kernel_rfl) (gcheck_fun u0 _ _ hM15.fz) ?_; intro a21 wd23 hF22 hM24; clear hF20 hM15
 refine s1 hF22 8 (.int .i64 (gcheck u0)) ?_; intro a25 hF26; clear hF22
 refine nlH (hQ18 _ _ ?_); clear hQ18 hQ18Q
 refine sqH ?_; intro hQ27Q hQ27
 refine s1 hF26 14 (.int .i64 (gcheck u0)) ?_; intro a28 hF29; clear hF26
 refine s1 hF29 15 (.bool ((gcheck u0) != 0)) ?_; intro a30 hF31; clear hF29
 refine nlH (hQ27 _ _ ?_); clear hQ27 hQ27Q
 refine cd hF31 (t := (gcheck u0) != 0) (by kernel_rfl) (fun hb32 => ?_) (fun hb32 => ?_)
 ·
  have hp33 := hp4.1 hb32; clear hp4
  refine sqH ?_; intro hQ34Q hQ34
  refine s1 hF31 16 (.agg #[.int .i64 0, .int .i64 0, .int .i64 0, .int .i64 0]) ?_; intro a35 hF36; clear hF31
  refine s1 hF36 17 (.int .i64 (gcheck u0)) ?_; intro a37 hF38; clear hF36
  refine sr hF38 hM24 0 [.int .i64 0, .int .i64 0, .int .i64 0, .int .i64 0] (b := b11) (off := 0) (cs := [.int .i64 0, .int .i64 0, .int .i64 0, .int .i64 0]) (ty := 62) (u := .agg #[.int .i64 0, .int .i64 0, .int .i64 0, .int .i64 0]) (nog rfl _) rfl rfl (by kernel_rfl) (by kernel_rfl) (by kernel_rfl) (by kernel_rfl) (by kernel_rfl) (by kernel_rfl) (by kernel_rfl) ?_; intro wd39 hM40; clear hM24
  refine s1 hF38 7 (.int .i64 (gcheck u0)) ?_; intro a41 hF42; clear hF38
  have hM43 : Mem w.heap.size [] w Z [.row b11 [.int .i64 0, .int .i64 0, .int .i64 0, .int .i64 0] 62, .row b6 [.int .i64 u0.Key, .int .i64 u0.Last, .int .i64 u0.Bad, .int .i64 u0.State] 62] Z wd39 := hM40; clear hM40
  refine nlH (hQ34 _ _ ?_); clear hQ34 hQ34Q
  refine wp_ret ?_
  refine thr ?_
  refine rt (fn := Tryd.f39) (v := .tuple #[.agg #[.int .i64 0, .int .i64 0, .int .i64 0, .int .i64 0], .int .i64 (gcheck u0)]) hF42 (re2c hF42 (fn := Tryd.f39) rfl (ad := ⟨b11, 0, none⟩) (by kernel_rfl) (loadVar_run hM43 0 (b := b11) (k := 4) (vs := [.int .i64 0, .int .i64 0, .int .i64 0, .int .i64 0]) (ty := 62) rfl (by kernel_rfl) (by kernel_rfl)) (by kernel_rfl)) ?_
  exact ⟨((⟨0, 0, 0, 0⟩ : Guard), (gcheck u0)), rfl, hp33, hM43.below⟩
 ·
  have hp44 := hp4.2 hb32; clear hp4
  refine wp_skip ?_
  refine thn ?_
  refine wp_seq ?_
  refine sqH ?_; intro hQ45Q hQ45
  refine s1 hF31 18 (.int .i64 u2) ?_; intro a46 hF47; clear hF31
  refine s1 hF47 19 (.bool (decide (u2 < 1))) ?_; intro a48 hF49; clear hF47
  refine s1 hF49 20 (.bool (decide (u2 < 1))) ?_; intro a50 hF51; clear hF49
  have hF52 := hF51.atom ((decide (u2 < 1)) == false) (by kernel_rfl); clear hF51
  refine gp hF52 21 0 [] (decide (u2 < 1)) (.int .i64 u2) rfl rfl ?_; intro a53 hF54; clear hF52
  refine gp hF54 22 0 [] (decide (u2 < 1)) (.bool (decide (u2 ≥ 15))) rfl rfl ?_; intro a55 hF56; clear hF54
  refine st hF56 (.bool ((decide (u2 < 1)) || (decide (u2 ≥ 15)))) (nog rfl _) rfl (by kernel_rfl) (pk_or hF56 (g := []) (m := 0) (b := decide (u2 < 1)) (v := decide (u2 ≥ 15)) rfl (by kernel_rfl) (by kernel_rfl) (by kernel_rfl) rfl) ?_; intro a57 hF58; clear hF56
  refine nlH (hQ45 _ _ ?_); clear hQ45 hQ45Q
  refine cd hF58 (t := (decide (u2 < 1)) || (decide (u2 ≥ 15))) (by kernel_rfl) (fun hb59 => ?_) (fun hb59 => ?_)
  ·
   have hp60 := hp44.1 hb59; clear hp44
   have hF61 : Fr 92 [] [⟨6, [], .pointer (some ⟨b11, 0, none⟩)⟩] a57 := hF58.reg; clear hF58
   refine sqH ?_; intro hQ62Q hQ62
   refine s1 hF61 24 (.agg #[.int .i64 0, .int .i64 0, .int .i64 0, .int .i64 0]) ?_; intro a63 hF64; clear hF61
   refine sr hF64 hM24 0 [.int .i64 0, .int .i64 0, .int .i64 0, .int .i64 0] (b := b11) (off := 0) (cs := [.int .i64 0, .int .i64 0, .int .i64 0, .int .i64 0]) (ty := 62) (u := .agg #[.int .i64 0, .int .i64 0, .int .i64 0, .int .i64 0]) (nog rfl _) rfl rfl (by kernel_rfl) (by kernel_rfl) (by kernel_rfl) (by kernel_rfl) (by kernel_rfl) (by kernel_rfl) (by kernel_rfl) ?_; intro wd65 hM66; clear hM24
   refine s1 hF64 7 (.int .i64 3) ?_; intro a67 hF68; clear hF64
   have hM69 : Mem w.heap.size [] w Z [.row b11 [.int .i64 0, .int .i64 0, .int .i64 0, .int .i64 0] 62, .row b6 [.int .i64 u0.Key, .int .i64 u0.Last, .int .i64 u0.Bad, .int .i64 u0.State] 62] Z wd65 := hM66; clear hM66
   refine nlH (hQ62 _ _ ?_); clear hQ62 hQ62Q
   refine wp_ret ?_
   refine thr ?_
   refine rt (fn := Tryd.f39) (v := .tuple #[.agg #[.int .i64 0, .int .i64 0, .int .i64 0, .int .i64 0], .int .i64 3]) hF68 (re2c hF68 (fn := Tryd.f39) rfl (ad := ⟨b11, 0, none⟩) (by kernel_rfl) (loadVar_run hM69 0 (b := b11) (k := 4) (vs := [.int .i64 0, .int .i64 0, .int .i64 0, .int .i64 0]) (ty := 62) rfl (by kernel_rfl) (by kernel_rfl)) (by kernel_rfl)) ?_
   exact ⟨((⟨0, 0, 0, 0⟩ : Guard), 3), rfl, hp60, hM69.below⟩
  ·
   have hp70 := hp44.2 hb59; clear hp44
   refine wp_skip ?_
   refine thn ?_
   refine wp_seq ?_
   have hF71 : Fr 92 [] [⟨1, [], .slice ao1 u1.length cap2⟩, ⟨2, [], .int .i64 u2⟩, ⟨3, [], .pointer (some ⟨b6, 0, none⟩)⟩, ⟨6, [], .pointer (some ⟨b11, 0, none⟩)⟩] a57 := hF58.reg; clear hF58
   refine sqH ?_; intro hQ72Q hQ72
   refine s1 hF71 25 (.slice ao1 u1.length cap2) ?_; intro a73 hF74; clear hF71
   refine s1 hF74 26 (.int .i64 (u1.length : Int)) ?_; intro a75 hF76; clear hF74
   refine s1 hF76 27 (.bool (decide ((u1.length : Int) < 2))) ?_; intro a77 hF78; clear hF76
   refine nlH (hQ72 _ _ ?_); clear hQ72 hQ72Q
   refine cd hF78 (t := decide ((u1.length : Int) < 2)) (by kernel_rfl) (fun hb79 => ?_) (fun hb79 => ?_)
   ·
    have hp80 := hp70.1 hb79; clear hp70
    refine sqH ?_; intro hQ81Q hQ81
    refine s1 hF78 28 (.agg #[.int .i64 0, .int .i64 0, .int .i64 0, .int .i64 0]) ?_; intro a82 hF83; clear hF78
    refine sr hF83 hM24 0 [.int .i64 0, .int .i64 0, .int .i64 0, .int .i64 0] (b := b11) (off := 0) (cs := [.int .i64 0, .int .i64 0, .int .i64 0, .int .i64 0]) (ty := 62) (u := .agg #[.int .i64 0, .int .i64 0, .int .i64 0, .int .i64 0]) (nog rfl _) rfl rfl (by kernel_rfl) (by kernel_rfl) (by kernel_rfl) (by kernel_rfl) (by kernel_rfl) (by kernel_rfl) (by kernel_rfl) ?_; intro wd84 hM85; clear hM24
    refine s1 hF83 7 (.int .i64 7) ?_; intro a86 hF87; clear hF83
    have hM88 : Mem w.heap.size [] w Z [.row b11 [.int .i64 0, .int .i64 0, .int .i64 0, .int .i64 0] 62, .row b6 [.int .i64 u0.Key, .int .i64 u0.Last, .int .i64 u0.Bad, .int .i64 u0.State] 62] Z wd84 := hM85; clear hM85
    refine nlH (hQ81 _ _ ?_); clear hQ81 hQ81Q
    refine wp_ret ?_
    refine thr ?_
    refine rt (fn := Tryd.f39) (v := .tuple #[.agg #[.int .i64 0, .int .i64 0, .int .i64 0, .int .i64 0], .int .i64 7]) hF87 (re2c hF87 (fn := Tryd.f39) rfl (ad := ⟨b11, 0, none⟩) (by kernel_rfl) (loadVar_run hM88 0 (b := b11) (k := 4) (vs := [.int .i64 0, .int .i64 0, .int .i64 0, .int .i64 0]) (ty := 62) rfl (by kernel_rfl) (by kernel_rfl)) (by kernel_rfl)) ?_
    exact ⟨((⟨0, 0, 0, 0⟩ : Guard), 7), rfl, hp80, hM88.below⟩
   ·
    have hp89 := hp70.2 hb79; clear hp70
    refine wp_skip ?_
    refine thn ?_
    refine wp_seq ?_
    refine sqH ?_; intro hQ90Q hQ90
    refine s1 hF78 29 (.slice ao1 u1.length cap2) ?_; intro a91 hF92; clear hF78
    refine s1 hF92 30 (.int .i64 (u1.length : Int)) ?_; intro a93 hF94; clear hF92
    refine s1 hF94 31 (.bool (decide ((u1.length : Int) > 64))) ?_; intro a95 hF96; clear hF94
    refine nlH (hQ90 _ _ ?_); clear hQ90 hQ90Q
    refine cd hF96 (t := decide ((u1.length : Int) > 64)) (by kernel_rfl) (fun hb97 => ?_) (fun hb97 => ?_)
    ·
     have hp98 := hp89.1 hb97; clear hp89
     refine sqH ?_; intro hQ99Q hQ99
     refine s1 hF96 32 (.agg #[.int .i64 0, .int .i64 0, .int .i64 0, .int .i64 0]) ?_; intro a100 hF101; clear hF96
     refine sr hF101 hM24 0 [.int .i64 0, .int .i64 0, .int .i64 0, .int .i64 0] (b := b11) (off := 0) (cs := [.int .i64 0, .int .i64 0, .int .i64 0, .int .i64 0]) (ty := 62) (u := .agg #[.int .i64 0, .int .i64 0, .int .i64 0, .int .i64 0]) (nog rfl _) rfl rfl (by kernel_rfl) (by kernel_rfl) (by kernel_rfl) (by kernel_rfl) (by kernel_rfl) (by kernel_rfl) (by kernel_rfl) ?_; intro wd102 hM103; clear hM24
     refine s1 hF101 7 (.int .i64 2) ?_; intro a104 hF105; clear hF101
     have hM106 : Mem w.heap.size [] w Z [.row b11 [.int .i64 0, .int .i64 0, .int .i64 0, .int .i64 0] 62, .row b6 [.int .i64 u0.Key, .int .i64 u0.Last, .int .i64 u0.Bad, .int .i64 u0.State] 62] Z wd102 := hM103; clear hM103
     refine nlH (hQ99 _ _ ?_); clear hQ99 hQ99Q
     refine wp_ret ?_
     refine thr ?_
     refine rt (fn := Tryd.f39) (v := .tuple #[.agg #[.int .i64 0, .int .i64 0, .int .i64 0, .int .i64 0], .int .i64 2]) hF105 (re2c hF105 (fn := Tryd.f39) rfl (ad := ⟨b11, 0, none⟩) (by kernel_rfl) (loadVar_run hM106 0 (b := b11) (k := 4) (vs := [.int .i64 0, .int .i64 0, .int .i64 0, .int .i64 0]) (ty := 62) rfl (by kernel_rfl) (by kernel_rfl)) (by kernel_rfl)) ?_
     exact ⟨((⟨0, 0, 0, 0⟩ : Guard), 2), rfl, hp98, hM106.below⟩
    ·
     have hp107 := hp89.2 hb97; clear hp89
     refine wp_skip ?_
     refine thn ?_
     refine sqH ?_; intro hQ108Q hQ108
     refine s1 hF96 33 (.slice ao1 u1.length cap2) ?_; intro a109 hF110; clear hF96
     have hc111 := hp107.1; have hp112 := hp107.2; clear hp107
     refine ix hF110 (T := (tyInt .u8)) (xs := u1) hs3 (1 : Int) hc111 (k := .i64) (e := 5) (bytes := 1) (nog rfl _) rfl (by kernel_rfl) rfl (by kernel_rfl) (by kernel_rfl) (by kernel_rfl) ?_; intro b113 off114 cs115 q116 a120 hq117 hP118 hT119 hF121; clear hF110
     have hp122 := hp112 q116 hq117; clear hp112
     obtain rfl : cs115 = ([.int .u8 q116] : List Value) := hT119
     refine z1 hF121 hM24 35 hP118 0 (.int .u8 q116) rfl ?_; intro a123 hF124; clear hF121
     refine s1 hF124 36 (.int .u8 (bAnd .u8 q116 15)) ?_; intro a125 hF126; clear hF124
     refine s1 hF126 37 (.int .i64 (w64 (bAnd .u8 q116 15))) ?_; intro a127 hF128; clear hF126
     refine s1 hF128 9 (.int .i64 (w64 (bAnd .u8 q116 15))) ?_; intro a129 hF130; clear hF128
     refine nlH (hQ108 _ _ ?_); clear hQ108 hQ108Q
     refine sqH ?_; intro hQ131Q hQ131
     refine s1 hF130 38 (.func (.func 74) #[] #[.pointer (some ⟨b6, 0, none⟩)]) ?_; intro a132 hF133; clear hF130
     refine s1 hF133 10 (.func (.func 74) #[] #[.pointer (some ⟨b6, 0, none⟩)]) ?_; intro a134 hF135; clear hF133
     refine nlH (hQ131 _ _ ?_); clear hQ131 hQ131Q
     refine wp_seq ?_
     have hF136 : Fr 92 [] [⟨1, [], .slice ao1 u1.length cap2⟩, ⟨2, [], .int .i64 u2⟩, ⟨3, [], .pointer (some ⟨b6, 0, none⟩)⟩, ⟨6, [], .pointer (some ⟨b11, 0, none⟩)⟩, ⟨9, [], .int .i64 (w64 (bAnd .u8 q116 15))⟩, ⟨10, [], .func (.func 74) #[] #[.pointer (some ⟨b6, 0, none⟩)]⟩] a134 := hF135.reg; clear hF135
     rcases Bool.eq_false_or_eq_true (decide ((w64 (bAnd .u8 q116 15)) ≥ 15)) with hb137 | hb137
     ·
      have hp138 := hp122.1 hb137; clear hp122
      have hF139 : Fr 92 [] [⟨1, [], .slice ao1 u1.length cap2⟩, ⟨2, [], .int .i64 u2⟩, ⟨3, [], .pointer (some ⟨b6, 0, none⟩)⟩, ⟨6, [], .pointer (some ⟨b11, 0, none⟩)⟩, ⟨9, [], .int .i64 (w64 (bAnd .u8 q116 15))⟩, ⟨10, [], .func (.func 74) #[] #[.pointer (some ⟨b6, 0, none⟩)]⟩] a134 := hF136.reg; clear hF136
      refine sqQH mixed (by kernel_rfl) hM24 ?_; intro hQ140Q hQ140
      refine q1 hF139 39 (.int .i64 (w64 (bAnd .u8 q116 15))) ?_; intro a142 hF143; clear hF139
      refine q1 hF143 40 (.bool (decide ((w64 (bAnd .u8 q116 15)) ≥ 15))) ?_; intro a145 hF146; clear hF143
      have hF147 := hF146.reval (d := 40) (c := []) (v := .bool (decide ((w64 (bAnd .u8 q116 15)) ≥ 15))) (by kernel_rfl) (.bool true) (by rw [hb137]); clear hF146
      refine q1 hF147 41 (.bool true) ?_; intro a149 hF150; clear hF147
      refine qsk hF150 (b := true) rfl rfl (by kernel_rfl) (by kernel_rfl) rfl rfl (by kernel_rfl) ?_; intro a151 hF152; clear hF150
      refine qsk hF152 (b := true) rfl rfl (by kernel_rfl) (by kernel_rfl) rfl rfl (by kernel_rfl) ?_; intro a153 hF154; clear hF152
      refine qsk hF154 (b := true) rfl rfl (by kernel_rfl) (by kernel_rfl) rfl rfl (by kernel_rfl) ?_; intro a155 hF156; clear hF154
      refine qsk hF156 (b := true) rfl rfl (by kernel_rfl) (by kernel_rfl) rfl rfl (by kernel_rfl) ?_; intro a157 hF158; clear hF156
      refine qsk hF158 (b := true) rfl rfl (by kernel_rfl) (by kernel_rfl) rfl rfl (by kernel_rfl) ?_; intro a159 hF160; clear hF158
      refine qsk hF160 (b := true) rfl rfl (by kernel_rfl) (by kernel_rfl) rfl rfl (by kernel_rfl) ?_; intro a161 hF162; clear hF160
      refine qsk hF162 (b := true) rfl rfl (by kernel_rfl) (by kernel_rfl) rfl rfl (by kernel_rfl) ?_; intro a163 hF164; clear hF162
      refine qsk hF164 (b := true) rfl rfl (by kernel_rfl) (by kernel_rfl) rfl rfl (by kernel_rfl) ?_; intro a165 hF166; clear hF164
      refine q1 hF166 50 (.bool true) ?_; intro a168 hF169; clear hF166
      refine qnl (hQ140 _ ?_); clear hQ140 hQ140Q; intro wd170 hM171; clear hM24
      refine cdT hF169 (by kernel_rfl) ?_
      refine sqH ?_; intro hQ172Q hQ172
      refine s1 hF169 51 (.func (.func 74) #[] #[.pointer (some ⟨b6, 0, none⟩)]) ?_; intro a173 hF174; clear hF169
      refine cl hF174 74 #[.pointer (some ⟨b6, 0, none⟩)] (nog rfl _) rfl (by kernel_rfl) (by kernel_rfl) ?_
      obtain ⟨r179, hr180⟩ : ∃ x, (gbadS u0) = x := ⟨_, rfl⟩; have hp181 := hp138 r179 hr180; clear hp138
      have h9 := gbad_fun u0 b6 _ _ _ _ _ _ (hM171.perm (pk 1 rfl)) hM171.fz; rw [hr180] at h9; refine h9.mono ?_; clear h9; rintro _ wd175 ⟨Z183, rfl, hle184, hm⟩; refine ⟨_, rfl, ?_⟩; intro a176 hF177; have hM178 := hm; clear hm hM171 hF174
      replace hs3 := hs3.mono hle184
      replace hP118 := hP118.mono hle184
      replace hle0 := Fz.le.trans hle0 hle184
      have hM185 : Mem w.heap.size [] w Z [.row b6 [.int .i64 r179.2.2.Key, .int .i64 r179.2.2.Last, .int .i64 r179.2.2.Bad, .int .i64 r179.2.2.State] 62, .row b11 [.int .i64 0, .int .i64 0, .int .i64 0, .int .i64 0] 62] Z183 wd175 := hM178; clear hM178
      refine s1 hF177 53 (.agg #[.int .i64 r179.1.Key, .int .i64 r179.1.Last, .int .i64 r179.1.Bad, .int .i64 r179.1.State]) ?_; intro a186 hF187; clear hF177
      refine s1 hF187 54 (.int .i64 r179.2.1) ?_; intro a188 hF189; clear hF187
      refine sr hF189 hM185 1 [.int .i64 r179.1.Key, .int .i64 r179.1.Last, .int .i64 r179.1.Bad, .int .i64 r179.1.State] (b := b11) (off := 0) (cs := [.int .i64 0, .int .i64 0, .int .i64 0, .int .i64 0]) (ty := 62) (u := .agg #[.int .i64 r179.1.Key, .int .i64 r179.1.Last, .int .i64 r179.1.Bad, .int .i64 r179.1.State]) (nog rfl _) rfl rfl (by kernel_rfl) (by kernel_rfl) (by kernel_rfl) (by kernel_rfl) (by kernel_rfl) (by kernel_rfl) (by kernel_rfl) ?_; intro wd190 hM191; clear hM185
      refine s1 hF189 7 (.int .i64 r179.2.1) ?_; intro a192 hF193; clear hF189
      have hM194 : Mem w.heap.size [] w Z [.row b6 [.int .i64 r179.2.2.Key, .int .i64 r179.2.2.Last, .int .i64 r179.2.2.Bad, .int .i64 r179.2.2.State] 62, .row b11 [.int .i64 r179.1.Key, .int .i64 r179.1.Last, .int .i64 r179.1.Bad, .int .i64 r179.1.State] 62] Z183 wd190 := hM191; clear hM191
      refine nlH (hQ172 _ _ ?_); clear hQ172 hQ172Q
      refine wp_ret ?_
      refine thr ?_
      refine rt (fn := Tryd.f39) (v := .tuple #[.agg #[.int .i64 r179.1.Key, .int .i64 r179.1.Last, .int .i64 r179.1.Bad, .int .i64 r179.1.State], .int .i64 r179.2.1]) hF193 (re2c hF193 (fn := Tryd.f39) rfl (ad := ⟨b11, 0, none⟩) (by kernel_rfl) (loadVar_run hM194 1 (b := b11) (k := 4) (vs := [.int .i64 r179.1.Key, .int .i64 r179.1.Last, .int .i64 r179.1.Bad, .int .i64 r179.1.State]) (ty := 62) rfl (by kernel_rfl) (by kernel_rfl)) (by kernel_rfl)) ?_
      exact ⟨(r179.1, r179.2.1), rfl, hp181, hM194.below⟩
     ·
      have hp195 := hp122.2 hb137; clear hp122
      have hF196 : Fr 92 [] [⟨1, [], .slice ao1 u1.length cap2⟩, ⟨2, [], .int .i64 u2⟩, ⟨3, [], .pointer (some ⟨b6, 0, none⟩)⟩, ⟨6, [], .pointer (some ⟨b11, 0, none⟩)⟩, ⟨9, [], .int .i64 (w64 (bAnd .u8 q116 15))⟩, ⟨10, [], .func (.func 74) #[] #[.pointer (some ⟨b6, 0, none⟩)]⟩] a134 := hF136.reg; clear hF136
      refine sqQH mixed (by kernel_rfl) hM24 ?_; intro hQ197Q hQ197
      refine q1 hF196 39 (.int .i64 (w64 (bAnd .u8 q116 15))) ?_; intro a199 hF200; clear hF196
      refine q1 hF200 40 (.bool (decide ((w64 (bAnd .u8 q116 15)) ≥ 15))) ?_; intro a202 hF203; clear hF200
      have hF204 := hF203.reval (d := 40) (c := []) (v := .bool (decide ((w64 (bAnd .u8 q116 15)) ≥ 15))) (by kernel_rfl) (.bool false) (by rw [hb137]); clear hF203
      refine q1 hF204 41 (.bool false) ?_; intro a206 hF207; clear hF204
      refine qst hF207 (.slice ao1 u1.length cap2) (by rw [wanted_of hF207 (b := false) rfl rfl (by kernel_rfl) (by kernel_rfl)]; rfl) rfl (by kernel_rfl) (fun v208 hC => p0 hF207 (by kernel_rfl)) ?_; intro a209 hF210; clear hF207
      have hc212 := hp195.1; have hp213 := hp195.2; clear hp195
      refine qix hF210 (T := (tyInt .u8)) (xs := u1) hs3 (0 : Int) hc212 (k := .i64) (e := 5) (bytes := 1) (by rw [wanted_of hF210 (b := false) rfl rfl (by kernel_rfl) (by kernel_rfl)]; rfl) rfl (by kernel_rfl) rfl (by kernel_rfl) (by kernel_rfl) (by kernel_rfl) ?_; intro b214 off215 cs216 q217 a221 hq218 hP219 hT220 hF222; clear hF210
      have hp223 := hp213 q217 hq218; clear hp213
      obtain rfl : cs216 = ([.int .u8 q217] : List Value) := hT220
      refine qst hF222 (.int .u8 q217) (by rw [wanted_of hF222 (b := false) rfl rfl (by kernel_rfl) (by kernel_rfl)]; rfl) rfl (by kernel_rfl) (fun v224 hC => lz hF222 hC.fz hP219 0 (g := []) rfl (by kernel_rfl) (by kernel_rfl) (by kernel_rfl) rfl) ?_; intro a225 hF226; clear hF222
      refine qst hF226 (.pointer (some ⟨b6, 0, none⟩)) (by rw [wanted_of hF226 (b := false) rfl rfl (by kernel_rfl) (by kernel_rfl)]; rfl) rfl (by kernel_rfl) (fun v227 hC => p0 hF226 (by kernel_rfl)) ?_; intro a228 hF229; clear hF226
      refine qst hF229 (.int .i64 u0.Key) (by rw [wanted_of hF229 (b := false) rfl rfl (by kernel_rfl) (by kernel_rfl)]; rfl) rfl (by kernel_rfl) (fun v230 hC => ld hF229 hC 1 (g := []) (b := b6) (off := 0) (cs := [.int .i64 u0.Key, .int .i64 u0.Last, .int .i64 u0.Bad, .int .i64 u0.State]) (ty := 62) rfl (by kernel_rfl) (by kernel_rfl) (by kernel_rfl) (by kernel_rfl) rfl) ?_; intro a231 hF232; clear hF229
      refine qst hF232 (.slice ao1 u1.length cap2) (by rw [wanted_of hF232 (b := false) rfl rfl (by kernel_rfl) (by kernel_rfl)]; rfl) rfl (by kernel_rfl) (fun v233 hC => p0 hF232 (by kernel_rfl)) ?_; intro a234 hF235; clear hF232
      have hc237 := hp223.1; have hp238 := hp223.2; clear hp223
      refine qcl hF235 (.int .u8 (gsumS u0.Key u1)) 75 #[.int .i64 u0.Key, .slice ao1 u1.length cap2] (by rw [wanted_of hF235 (b := false) rfl rfl (by kernel_rfl) (by kernel_rfl)]; rfl) rfl (by kernel_rfl) (fun _ => by kernel_rfl) (qfc fun w hC => gsum_fun u0.Key u1 hc237 ao1 cap2 _ _ hs3 hC.fz) ?_; intro a239 hF240; clear hF235
      refine qst hF240 (.bool (q217 != (gsumS u0.Key u1))) (by rw [wanted_of hF240 (b := false) rfl rfl (by kernel_rfl) (by kernel_rfl)]; rfl) rfl (by kernel_rfl) (fun v241 hC => p0 hF240 (by kernel_rfl)) ?_; intro a242 hF243; clear hF240
      refine q1 hF243 50 (.bool (q217 != (gsumS u0.Key u1))) ?_; intro a245 hF246; clear hF243
      refine qnl (hQ197 _ ?_); clear hQ197 hQ197Q; intro wd247 hM248; clear hM24
      refine cd hF246 (t := q217 != (gsumS u0.Key u1)) (by kernel_rfl) (fun hb249 => ?_) (fun hb249 => ?_)
      ·
       have hp250 := hp238.1 hb249; clear hp238
       refine sqH ?_; intro hQ251Q hQ251
       refine s1 hF246 51 (.func (.func 74) #[] #[.pointer (some ⟨b6, 0, none⟩)]) ?_; intro a252 hF253; clear hF246
       refine cl hF253 74 #[.pointer (some ⟨b6, 0, none⟩)] (nog rfl _) rfl (by kernel_rfl) (by kernel_rfl) ?_
       obtain ⟨r258, hr259⟩ : ∃ x, (gbadS u0) = x := ⟨_, rfl⟩; have hp260 := hp250 r258 hr259; clear hp250
       have h9 := gbad_fun u0 b6 _ _ _ _ _ _ (hM248.perm (pk 1 rfl)) hM248.fz; rw [hr259] at h9; refine h9.mono ?_; clear h9; rintro _ wd254 ⟨Z262, rfl, hle263, hm⟩; refine ⟨_, rfl, ?_⟩; intro a255 hF256; have hM257 := hm; clear hm hM248 hF253
       replace hs3 := hs3.mono hle263
       replace hP118 := hP118.mono hle263
       replace hP219 := hP219.mono hle263
       replace hle0 := Fz.le.trans hle0 hle263
       have hM264 : Mem w.heap.size [] w Z [.row b6 [.int .i64 r258.2.2.Key, .int .i64 r258.2.2.Last, .int .i64 r258.2.2.Bad, .int .i64 r258.2.2.State] 62, .row b11 [.int .i64 0, .int .i64 0, .int .i64 0, .int .i64 0] 62] Z262 wd254 := hM257; clear hM257
       refine s1 hF256 53 (.agg #[.int .i64 r258.1.Key, .int .i64 r258.1.Last, .int .i64 r258.1.Bad, .int .i64 r258.1.State]) ?_; intro a265 hF266; clear hF256
       refine s1 hF266 54 (.int .i64 r258.2.1) ?_; intro a267 hF268; clear hF266
       refine sr hF268 hM264 1 [.int .i64 r258.1.Key, .int .i64 r258.1.Last, .int .i64 r258.1.Bad, .int .i64 r258.1.State] (b := b11) (off := 0) (cs := [.int .i64 0, .int .i64 0, .int .i64 0, .int .i64 0]) (ty := 62) (u := .agg #[.int .i64 r258.1.Key, .int .i64 r258.1.Last, .int .i64 r258.1.Bad, .int .i64 r258.1.State]) (nog rfl _) rfl rfl (by kernel_rfl) (by kernel_rfl) (by kernel_rfl) (by kernel_rfl) (by kernel_rfl) (by kernel_rfl) (by kernel_rfl) ?_; intro wd269 hM270; clear hM264
       refine s1 hF268 7 (.int .i64 r258.2.1) ?_; intro a271 hF272; clear hF268
       have hM273 : Mem w.heap.size [] w Z [.row b6 [.int .i64 r258.2.2.Key, .int .i64 r258.2.2.Last, .int .i64 r258.2.2.Bad, .int .i64 r258.2.2.State] 62, .row b11 [.int .i64 r258.1.Key, .int .i64 r258.1.Last, .int .i64 r258.1.Bad, .int .i64 r258.1.State] 62] Z262 wd269 := hM270; clear hM270
       refine nlH (hQ251 _ _ ?_); clear hQ251 hQ251Q
       refine wp_ret ?_
       refine thr ?_
       refine rt (fn := Tryd.f39) (v := .tuple #[.agg #[.int .i64 r258.1.Key, .int .i64 r258.1.Last, .int .i64 r258.1.Bad, .int .i64 r258.1.State], .int .i64 r258.2.1]) hF272 (re2c hF272 (fn := Tryd.f39) rfl (ad := ⟨b11, 0, none⟩) (by kernel_rfl) (loadVar_run hM273 1 (b := b11) (k := 4) (vs := [.int .i64 r258.1.Key, .int .i64 r258.1.Last, .int .i64 r258.1.Bad, .int .i64 r258.1.State]) (ty := 62) rfl (by kernel_rfl) (by kernel_rfl)) (by kernel_rfl)) ?_
       exact ⟨(r258.1, r258.2.1), rfl, hp260, hM273.below⟩
      ·
       have hp274 := hp238.2 hb249; clear hp238
       refine wp_skip ?_
       refine thn ?_
       refine sqH ?_; intro hQ275Q hQ275
       refine s1 hF246 55 (.int .i64 (w64 (bAnd .u8 q116 15))) ?_; intro a276 hF277; clear hF246
       refine s1 hF277 56 (.pointer (some ⟨b6, 1, none⟩)) ?_; intro a278 hF279; clear hF277
       refine l1 hF279 hM248 57 1 1 (.int .i64 u0.Last) rfl rfl ?_; intro a280 hF281; clear hF279
       refine s1 hF281 58 (.int .i64 (w64 ((w64 (bAnd .u8 q116 15)) - u0.Last))) ?_; intro a282 hF283; clear hF281
       refine s1 hF283 59 (.int .i64 (w64 ((w64 ((w64 (bAnd .u8 q116 15)) - u0.Last)) + 15))) ?_; intro a284 hF285; clear hF283
       refine s1 hF285 60 (.int .i64 ((w64 ((w64 ((w64 (bAnd .u8 q116 15)) - u0.Last)) + 15)).tmod 15)) ?_; intro a286 hF287; clear hF285
       refine s1 hF287 11 (.int .i64 ((w64 ((w64 ((w64 (bAnd .u8 q116 15)) - u0.Last)) + 15)).tmod 15)) ?_; intro a288 hF289; clear hF287
       refine nlH (hQ275 _ _ ?_); clear hQ275 hQ275Q
       refine wp_seq ?_
       refine wp_block ?_
       have hF290 : Fr 92 [] [⟨2, [], .int .i64 u2⟩, ⟨3, [], .pointer (some ⟨b6, 0, none⟩)⟩, ⟨6, [], .pointer (some ⟨b11, 0, none⟩)⟩, ⟨9, [], .int .i64 (w64 (bAnd .u8 q116 15))⟩, ⟨10, [], .func (.func 74) #[] #[.pointer (some ⟨b6, 0, none⟩)]⟩, ⟨11, [], .int .i64 ((w64 ((w64 ((w64 (bAnd .u8 q116 15)) - u0.Last)) + 15)).tmod 15)⟩] a288 := hF289.reg; clear hF289
       refine sqH ?_; intro hQ291Q hQ291
       refine s1 hF290 68 (.pointer (some ⟨b6, 1, none⟩)) ?_; intro a292 hF293; clear hF290
       refine l1 hF293 hM248 69 1 1 (.int .i64 u0.Last) rfl rfl ?_; intro a294 hF295; clear hF293
       refine s1 hF295 70 (.bool (decide (u0.Last < 0))) ?_; intro a296 hF297; clear hF295
       refine s1 hF297 71 (.bool (decide (u0.Last < 0))) ?_; intro a298 hF299; clear hF297
       have hF300 := hF299.atom ((decide (u0.Last < 0)) == false) (by kernel_rfl); clear hF299
       refine gp hF300 72 0 [] (decide (u0.Last < 0)) (.int .i64 ((w64 ((w64 ((w64 (bAnd .u8 q116 15)) - u0.Last)) + 15)).tmod 15)) rfl rfl ?_; intro a301 hF302; clear hF300
       refine gp hF302 73 0 [] (decide (u0.Last < 0)) (.bool (((w64 ((w64 ((w64 (bAnd .u8 q116 15)) - u0.Last)) + 15)).tmod 15) == 1)) rfl rfl ?_; intro a303 hF304; clear hF302
       refine st hF304 (.bool ((decide (u0.Last < 0)) || (((w64 ((w64 ((w64 (bAnd .u8 q116 15)) - u0.Last)) + 15)).tmod 15) == 1))) (nog rfl _) rfl (by kernel_rfl) (pk_or hF304 (g := []) (m := 0) (b := decide (u0.Last < 0)) (v := ((w64 ((w64 ((w64 (bAnd .u8 q116 15)) - u0.Last)) + 15)).tmod 15) == 1) rfl (by kernel_rfl) (by kernel_rfl) (by kernel_rfl) rfl) ?_; intro a305 hF306; clear hF304
       refine s1 hF306 67 (.bool ((decide (u0.Last < 0)) || (((w64 ((w64 ((w64 (bAnd .u8 q116 15)) - u0.Last)) + 15)).tmod 15) == 1))) ?_; intro a307 hF308; clear hF306
       refine nlH (hQ291 _ _ ?_); clear hQ291 hQ291Q
       refine cd hF308 (t := (decide (u0.Last < 0)) || (((w64 ((w64 ((w64 (bAnd .u8 q116 15)) - u0.Last)) + 15)).tmod 15) == 1)) (by kernel_rfl) (fun hb309 => ?_) (fun hb309 => ?_)
       ·
        have hp310 := hp274.1 hb309; clear hp274
        have hF311 : Fr 92 [] [⟨3, [], .pointer (some ⟨b6, 0, none⟩)⟩, ⟨6, [], .pointer (some ⟨b11, 0, none⟩)⟩, ⟨9, [], .int .i64 (w64 (bAnd .u8 q116 15))⟩] a307 := hF308.reg; clear hF308
        refine rgH ?_; intro hQ312Q hQ312
        refine s1 hF311 75 (.pointer (some ⟨b6, 3, none⟩)) ?_; intro a313 hF314; clear hF311
        refine sr hF314 hM248 1 [.int .i64 u0.Key, .int .i64 u0.Last, .int .i64 u0.Bad, .int .i64 1] (b := b6) (off := 3) (cs := [.int .i64 u0.Key, .int .i64 u0.Last, .int .i64 u0.Bad, .int .i64 u0.State]) (ty := 62) (u := .int .i64 1) (nog rfl _) rfl rfl (by kernel_rfl) (by kernel_rfl) (by kernel_rfl) (by kernel_rfl) (by kernel_rfl) (by kernel_rfl) (by kernel_rfl) ?_; intro wd315 hM316; clear hM248
        have hM317 : Mem w.heap.size [] w Z [.row b11 [.int .i64 0, .int .i64 0, .int .i64 0, .int .i64 0] 62, .row b6 [.int .i64 u0.Key, .int .i64 u0.Last, .int .i64 u0.Bad, .int .i64 1] 62] Z wd315 := hM316; clear hM316
        refine nlH (hQ312 _ _ ?_); clear hQ312 hQ312Q
        refine ibn ?_
        refine thn ?_
        refine sqH ?_; intro hQ318Q hQ318
        refine s1 hF314 85 (.int .i64 (w64 (bAnd .u8 q116 15))) ?_; intro a319 hF320; clear hF314
        refine s1 hF320 86 (.pointer (some ⟨b6, 1, none⟩)) ?_; intro a321 hF322; clear hF320
        refine sr hF322 hM317 1 [.int .i64 u0.Key, .int .i64 (w64 (bAnd .u8 q116 15)), .int .i64 u0.Bad, .int .i64 1] (b := b6) (off := 1) (cs := [.int .i64 u0.Key, .int .i64 u0.Last, .int .i64 u0.Bad, .int .i64 1]) (ty := 62) (u := .int .i64 (w64 (bAnd .u8 q116 15))) (nog rfl _) rfl rfl (by kernel_rfl) (by kernel_rfl) (by kernel_rfl) (by kernel_rfl) (by kernel_rfl) (by kernel_rfl) (by kernel_rfl) ?_; intro wd323 hM324; clear hM317
        have hM325 : Mem w.heap.size [] w Z [.row b11 [.int .i64 0, .int .i64 0, .int .i64 0, .int .i64 0] 62, .row b6 [.int .i64 u0.Key, .int .i64 (w64 (bAnd .u8 q116 15)), .int .i64 u0.Bad, .int .i64 1] 62] Z wd323 := hM324; clear hM324
        refine nlH (hQ318 _ _ ?_); clear hQ318 hQ318Q
        refine wp_seq ?_
        refine sqH ?_; intro hQ326Q hQ326
        refine s1 hF322 87 (.pointer (some ⟨b6, 3, none⟩)) ?_; intro a327 hF328; clear hF322
        refine l1 hF328 hM325 88 1 3 (.int .i64 1) rfl rfl ?_; intro a329 hF330; clear hF328
        refine s1 hF330 89 (.bool true) ?_; intro a331 hF332; clear hF330
        refine nlH (hQ326 _ _ ?_); clear hQ326 hQ326Q
        refine cdT hF332 (by kernel_rfl) ?_
        refine rgH ?_; intro hQ333Q hQ333
        refine s1 hF332 90 (.pointer (some ⟨b6, 2, none⟩)) ?_; intro a334 hF335; clear hF332
        refine sr hF335 hM325 1 [.int .i64 u0.Key, .int .i64 (w64 (bAnd .u8 q116 15)), .int .i64 0, .int .i64 1] (b := b6) (off := 2) (cs := [.int .i64 u0.Key, .int .i64 (w64 (bAnd .u8 q116 15)), .int .i64 u0.Bad, .int .i64 1]) (ty := 62) (u := .int .i64 0) (nog rfl _) rfl rfl (by kernel_rfl) (by kernel_rfl) (by kernel_rfl) (by kernel_rfl) (by kernel_rfl) (by kernel_rfl) (by kernel_rfl) ?_; intro wd336 hM337; clear hM325
        have hM338 : Mem w.heap.size [] w Z [.row b11 [.int .i64 0, .int .i64 0, .int .i64 0, .int .i64 0] 62, .row b6 [.int .i64 u0.Key, .int .i64 (w64 (bAnd .u8 q116 15)), .int .i64 0, .int .i64 1] 62] Z wd336 := hM337; clear hM337
        refine nlH (hQ333 _ _ ?_); clear hQ333 hQ333Q
        refine thn ?_
        refine sqH ?_; intro hQ339Q hQ339
        refine l2 hF335 hM338 91 1 0 4 [.int .i64 u0.Key, .int .i64 (w64 (bAnd .u8 q116 15)), .int .i64 0, .int .i64 1] rfl rfl ?_; intro a340 hF341; clear hF335
        refine sr hF341 hM338 0 [.int .i64 u0.Key, .int .i64 (w64 (bAnd .u8 q116 15)), .int .i64 0, .int .i64 1] (b := b11) (off := 0) (cs := [.int .i64 0, .int .i64 0, .int .i64 0, .int .i64 0]) (ty := 62) (u := .agg #[.int .i64 u0.Key, .int .i64 (w64 (bAnd .u8 q116 15)), .int .i64 0, .int .i64 1]) (nog rfl _) rfl rfl (by kernel_rfl) (by kernel_rfl) (by kernel_rfl) (by kernel_rfl) (by kernel_rfl) (by kernel_rfl) (by kernel_rfl) ?_; intro wd342 hM343; clear hM338
        refine s1 hF341 7 (.int .i64 0) ?_; intro a344 hF345; clear hF341
        have hM346 : Mem w.heap.size [] w Z [.row b11 [.int .i64 u0.Key, .int .i64 (w64 (bAnd .u8 q116 15)), .int .i64 0, .int .i64 1] 62, .row b6 [.int .i64 u0.Key, .int .i64 (w64 (bAnd .u8 q116 15)), .int .i64 0, .int .i64 1] 62] Z wd342 := hM343; clear hM343
        refine nlH (hQ339 _ _ ?_); clear hQ339 hQ339Q
        refine wp_ret ?_
        refine rt (fn := Tryd.f39) (v := .tuple #[.agg #[.int .i64 u0.Key, .int .i64 (w64 (bAnd .u8 q116 15)), .int .i64 0, .int .i64 1], .int .i64 0]) hF345 (re2c hF345 (fn := Tryd.f39) rfl (ad := ⟨b11, 0, none⟩) (by kernel_rfl) (loadVar_run hM346 0 (b := b11) (k := 4) (vs := [.int .i64 u0.Key, .int .i64 (w64 (bAnd .u8 q116 15)), .int .i64 0, .int .i64 1]) (ty := 62) rfl (by kernel_rfl) (by kernel_rfl)) (by kernel_rfl)) ?_
        exact ⟨((⟨u0.Key, w64 (bAnd .u8 q116 15), 0, 1⟩ : Guard), 0), rfl, hp310, hM346.below⟩
       ·
        have hp347 := hp274.2 hb309; clear hp274
        have hF348 : Fr 92 [] [⟨2, [], .int .i64 u2⟩, ⟨3, [], .pointer (some ⟨b6, 0, none⟩)⟩, ⟨6, [], .pointer (some ⟨b11, 0, none⟩)⟩, ⟨9, [], .int .i64 (w64 (bAnd .u8 q116 15))⟩, ⟨10, [], .func (.func 74) #[] #[.pointer (some ⟨b6, 0, none⟩)]⟩, ⟨11, [], .int .i64 ((w64 ((w64 ((w64 (bAnd .u8 q116 15)) - u0.Last)) + 15)).tmod 15)⟩] a307 := hF308.reg; clear hF308
        refine sqH ?_; intro hQ349Q hQ349
        refine s1 hF348 77 (.int .i64 ((w64 ((w64 ((w64 (bAnd .u8 q116 15)) - u0.Last)) + 15)).tmod 15)) ?_; intro a350 hF351; clear hF348
        refine s1 hF351 78 (.bool (((w64 ((w64 ((w64 (bAnd .u8 q116 15)) - u0.Last)) + 15)).tmod 15) == 0)) ?_; intro a352 hF353; clear hF351
        refine s1 hF353 76 (.bool (((w64 ((w64 ((w64 (bAnd .u8 q116 15)) - u0.Last)) + 15)).tmod 15) == 0)) ?_; intro a354 hF355; clear hF353
        refine nlH (hQ349 _ _ ?_); clear hQ349 hQ349Q
        refine cd hF355 (t := ((w64 ((w64 ((w64 (bAnd .u8 q116 15)) - u0.Last)) + 15)).tmod 15) == 0) (by kernel_rfl) (fun hb356 => ?_) (fun hb356 => ?_)
        ·
         have hp357 := hp347.1 hb356; clear hp347
         refine rgH ?_; intro hQ358Q hQ358
         refine s1 hF355 79 (.pointer (some ⟨b6, 3, none⟩)) ?_; intro a359 hF360; clear hF355
         refine sr hF360 hM248 1 [.int .i64 u0.Key, .int .i64 u0.Last, .int .i64 u0.Bad, .int .i64 3] (b := b6) (off := 3) (cs := [.int .i64 u0.Key, .int .i64 u0.Last, .int .i64 u0.Bad, .int .i64 u0.State]) (ty := 62) (u := .int .i64 3) (nog rfl _) rfl rfl (by kernel_rfl) (by kernel_rfl) (by kernel_rfl) (by kernel_rfl) (by kernel_rfl) (by kernel_rfl) (by kernel_rfl) ?_; intro wd361 hM362; clear hM248
         have hM363 : Mem w.heap.size [] w Z [.row b11 [.int .i64 0, .int .i64 0, .int .i64 0, .int .i64 0] 62, .row b6 [.int .i64 u0.Key, .int .i64 u0.Last, .int .i64 u0.Bad, .int .i64 3] 62] Z wd361 := hM362; clear hM362
         refine nlH (hQ358 _ _ ?_); clear hQ358 hQ358Q
         refine ibn ?_
         refine thn ?_
         refine sqH ?_; intro hQ364Q hQ364
         refine s1 hF360 85 (.int .i64 (w64 (bAnd .u8 q116 15))) ?_; intro a365 hF366; clear hF360
         refine s1 hF366 86 (.pointer (some ⟨b6, 1, none⟩)) ?_; intro a367 hF368; clear hF366
         refine sr hF368 hM363 1 [.int .i64 u0.Key, .int .i64 (w64 (bAnd .u8 q116 15)), .int .i64 u0.Bad, .int .i64 3] (b := b6) (off := 1) (cs := [.int .i64 u0.Key, .int .i64 u0.Last, .int .i64 u0.Bad, .int .i64 3]) (ty := 62) (u := .int .i64 (w64 (bAnd .u8 q116 15))) (nog rfl _) rfl rfl (by kernel_rfl) (by kernel_rfl) (by kernel_rfl) (by kernel_rfl) (by kernel_rfl) (by kernel_rfl) (by kernel_rfl) ?_; intro wd369 hM370; clear hM363
         have hM371 : Mem w.heap.size [] w Z [.row b11 [.int .i64 0, .int .i64 0, .int .i64 0, .int .i64 0] 62, .row b6 [.int .i64 u0.Key, .int .i64 (w64 (bAnd .u8 q116 15)), .int .i64 u0.Bad, .int .i64 3] 62] Z wd369 := hM370; clear hM370
         refine nlH (hQ364 _ _ ?_); clear hQ364 hQ364Q
         refine wp_seq ?_
         refine sqH ?_; intro hQ372Q hQ372
         refine s1 hF368 87 (.pointer (some ⟨b6, 3, none⟩)) ?_; intro a373 hF374; clear hF368
         refine l1 hF374 hM371 88 1 3 (.int .i64 3) rfl rfl ?_; intro a375 hF376; clear hF374
         refine s1 hF376 89 (.bool false) ?_; intro a377 hF378; clear hF376
         refine nlH (hQ372 _ _ ?_); clear hQ372 hQ372Q
         refine cdF hF378 (by kernel_rfl) ?_
         refine wp_skip ?_
         refine thn ?_
         refine sqH ?_; intro hQ379Q hQ379
         refine l2 hF378 hM371 91 1 0 4 [.int .i64 u0.Key, .int .i64 (w64 (bAnd .u8 q116 15)), .int .i64 u0.Bad, .int .i64 3] rfl rfl ?_; intro a380 hF381; clear hF378
         refine sr hF381 hM371 0 [.int .i64 u0.Key, .int .i64 (w64 (bAnd .u8 q116 15)), .int .i64 u0.Bad, .int .i64 3] (b := b11) (off := 0) (cs := [.int .i64 0, .int .i64 0, .int .i64 0, .int .i64 0]) (ty := 62) (u := .agg #[.int .i64 u0.Key, .int .i64 (w64 (bAnd .u8 q116 15)), .int .i64 u0.Bad, .int .i64 3]) (nog rfl _) rfl rfl (by kernel_rfl) (by kernel_rfl) (by kernel_rfl) (by kernel_rfl) (by kernel_rfl) (by kernel_rfl) (by kernel_rfl) ?_; intro wd382 hM383; clear hM371
         refine s1 hF381 7 (.int .i64 0) ?_; intro a384 hF385; clear hF381
         have hM386 : Mem w.heap.size [] w Z [.row b11 [.int .i64 u0.Key, .int .i64 (w64 (bAnd .u8 q116 15)), .int .i64 u0.Bad, .int .i64 3] 62, .row b6 [.int .i64 u0.Key, .int .i64 (w64 (bAnd .u8 q116 15)), .int .i64 u0.Bad, .int .i64 3] 62] Z wd382 := hM383; clear hM383
         refine nlH (hQ379 _ _ ?_); clear hQ379 hQ379Q
         refine wp_ret ?_
         refine rt (fn := Tryd.f39) (v := .tuple #[.agg #[.int .i64 u0.Key, .int .i64 (w64 (bAnd .u8 q116 15)), .int .i64 u0.Bad, .int .i64 3], .int .i64 0]) hF385 (re2c hF385 (fn := Tryd.f39) rfl (ad := ⟨b11, 0, none⟩) (by kernel_rfl) (loadVar_run hM386 0 (b := b11) (k := 4) (vs := [.int .i64 u0.Key, .int .i64 (w64 (bAnd .u8 q116 15)), .int .i64 u0.Bad, .int .i64 3]) (ty := 62) rfl (by kernel_rfl) (by kernel_rfl)) (by kernel_rfl)) ?_
         exact ⟨((⟨u0.Key, w64 (bAnd .u8 q116 15), u0.Bad, 3⟩ : Guard), 0), rfl, hp357, hM386.below⟩
        ·
         have hp387 := hp347.2 hb356; clear hp347
         refine sqH ?_; intro hQ388Q hQ388
         refine s1 hF355 81 (.int .i64 ((w64 ((w64 ((w64 (bAnd .u8 q116 15)) - u0.Last)) + 15)).tmod 15)) ?_; intro a389 hF390; clear hF355
         refine s1 hF390 82 (.int .i64 u2) ?_; intro a391 hF392; clear hF390
         refine s1 hF392 83 (.bool (decide (((w64 ((w64 ((w64 (bAnd .u8 q116 15)) - u0.Last)) + 15)).tmod 15) ≤ u2))) ?_; intro a393 hF394; clear hF392
         refine s1 hF394 80 (.bool (decide (((w64 ((w64 ((w64 (bAnd .u8 q116 15)) - u0.Last)) + 15)).tmod 15) ≤ u2))) ?_; intro a395 hF396; clear hF394
         refine nlH (hQ388 _ _ ?_); clear hQ388 hQ388Q
         refine cd hF396 (t := decide (((w64 ((w64 ((w64 (bAnd .u8 q116 15)) - u0.Last)) + 15)).tmod 15) ≤ u2)) (by kernel_rfl) (fun hb397 => ?_) (fun hb397 => ?_)
         ·
          have hp398 := hp387.1 hb397; clear hp387
          refine rgH ?_; intro hQ399Q hQ399
          refine s1 hF396 84 (.pointer (some ⟨b6, 3, none⟩)) ?_; intro a400 hF401; clear hF396
          refine sr hF401 hM248 1 [.int .i64 u0.Key, .int .i64 u0.Last, .int .i64 u0.Bad, .int .i64 2] (b := b6) (off := 3) (cs := [.int .i64 u0.Key, .int .i64 u0.Last, .int .i64 u0.Bad, .int .i64 u0.State]) (ty := 62) (u := .int .i64 2) (nog rfl _) rfl rfl (by kernel_rfl) (by kernel_rfl) (by kernel_rfl) (by kernel_rfl) (by kernel_rfl) (by kernel_rfl) (by kernel_rfl) ?_; intro wd402 hM403; clear hM248
          have hM404 : Mem w.heap.size [] w Z [.row b11 [.int .i64 0, .int .i64 0, .int .i64 0, .int .i64 0] 62, .row b6 [.int .i64 u0.Key, .int .i64 u0.Last, .int .i64 u0.Bad, .int .i64 2] 62] Z wd402 := hM403; clear hM403
          refine nlH (hQ399 _ _ ?_); clear hQ399 hQ399Q
          refine ibn ?_
          refine thn ?_
          refine sqH ?_; intro hQ405Q hQ405
          refine s1 hF401 85 (.int .i64 (w64 (bAnd .u8 q116 15))) ?_; intro a406 hF407; clear hF401
          refine s1 hF407 86 (.pointer (some ⟨b6, 1, none⟩)) ?_; intro a408 hF409; clear hF407
          refine sr hF409 hM404 1 [.int .i64 u0.Key, .int .i64 (w64 (bAnd .u8 q116 15)), .int .i64 u0.Bad, .int .i64 2] (b := b6) (off := 1) (cs := [.int .i64 u0.Key, .int .i64 u0.Last, .int .i64 u0.Bad, .int .i64 2]) (ty := 62) (u := .int .i64 (w64 (bAnd .u8 q116 15))) (nog rfl _) rfl rfl (by kernel_rfl) (by kernel_rfl) (by kernel_rfl) (by kernel_rfl) (by kernel_rfl) (by kernel_rfl) (by kernel_rfl) ?_; intro wd410 hM411; clear hM404
          have hM412 : Mem w.heap.size [] w Z [.row b11 [.int .i64 0, .int .i64 0, .int .i64 0, .int .i64 0] 62, .row b6 [.int .i64 u0.Key, .int .i64 (w64 (bAnd .u8 q116 15)), .int .i64 u0.Bad, .int .i64 2] 62] Z wd410 := hM411; clear hM411
          refine nlH (hQ405 _ _ ?_); clear hQ405 hQ405Q
          refine wp_seq ?_
          refine sqH ?_; intro hQ413Q hQ413
          refine s1 hF409 87 (.pointer (some ⟨b6, 3, none⟩)) ?_; intro a414 hF415; clear hF409
          refine l1 hF415 hM412 88 1 3 (.int .i64 2) rfl rfl ?_; intro a416 hF417; clear hF415
          refine s1 hF417 89 (.bool true) ?_; intro a418 hF419; clear hF417
          refine nlH (hQ413 _ _ ?_); clear hQ413 hQ413Q
          refine cdT hF419 (by kernel_rfl) ?_
          refine rgH ?_; intro hQ420Q hQ420
          refine s1 hF419 90 (.pointer (some ⟨b6, 2, none⟩)) ?_; intro a421 hF422; clear hF419
          refine sr hF422 hM412 1 [.int .i64 u0.Key, .int .i64 (w64 (bAnd .u8 q116 15)), .int .i64 0, .int .i64 2] (b := b6) (off := 2) (cs := [.int .i64 u0.Key, .int .i64 (w64 (bAnd .u8 q116 15)), .int .i64 u0.Bad, .int .i64 2]) (ty := 62) (u := .int .i64 0) (nog rfl _) rfl rfl (by kernel_rfl) (by kernel_rfl) (by kernel_rfl) (by kernel_rfl) (by kernel_rfl) (by kernel_rfl) (by kernel_rfl) ?_; intro wd423 hM424; clear hM412
          have hM425 : Mem w.heap.size [] w Z [.row b11 [.int .i64 0, .int .i64 0, .int .i64 0, .int .i64 0] 62, .row b6 [.int .i64 u0.Key, .int .i64 (w64 (bAnd .u8 q116 15)), .int .i64 0, .int .i64 2] 62] Z wd423 := hM424; clear hM424
          refine nlH (hQ420 _ _ ?_); clear hQ420 hQ420Q
          refine thn ?_
          have hF426 : Fr 92 [] [⟨3, [], .pointer (some ⟨b6, 0, none⟩)⟩, ⟨6, [], .pointer (some ⟨b11, 0, none⟩)⟩] a421 := hF422.reg; clear hF422
          refine sqH ?_; intro hQ427Q hQ427
          refine l2 hF426 hM425 91 1 0 4 [.int .i64 u0.Key, .int .i64 (w64 (bAnd .u8 q116 15)), .int .i64 0, .int .i64 2] rfl rfl ?_; intro a428 hF429; clear hF426
          refine sr hF429 hM425 0 [.int .i64 u0.Key, .int .i64 (w64 (bAnd .u8 q116 15)), .int .i64 0, .int .i64 2] (b := b11) (off := 0) (cs := [.int .i64 0, .int .i64 0, .int .i64 0, .int .i64 0]) (ty := 62) (u := .agg #[.int .i64 u0.Key, .int .i64 (w64 (bAnd .u8 q116 15)), .int .i64 0, .int .i64 2]) (nog rfl _) rfl rfl (by kernel_rfl) (by kernel_rfl) (by kernel_rfl) (by kernel_rfl) (by kernel_rfl) (by kernel_rfl) (by kernel_rfl) ?_; intro wd430 hM431; clear hM425
          refine s1 hF429 7 (.int .i64 0) ?_; intro a432 hF433; clear hF429
          have hM434 : Mem w.heap.size [] w Z [.row b11 [.int .i64 u0.Key, .int .i64 (w64 (bAnd .u8 q116 15)), .int .i64 0, .int .i64 2] 62, .row b6 [.int .i64 u0.Key, .int .i64 (w64 (bAnd .u8 q116 15)), .int .i64 0, .int .i64 2] 62] Z wd430 := hM431; clear hM431
          refine nlH (hQ427 _ _ ?_); clear hQ427 hQ427Q
          refine wp_ret ?_
          refine rt (fn := Tryd.f39) (v := .tuple #[.agg #[.int .i64 u0.Key, .int .i64 (w64 (bAnd .u8 q116 15)), .int .i64 0, .int .i64 2], .int .i64 0]) hF433 (re2c hF433 (fn := Tryd.f39) rfl (ad := ⟨b11, 0, none⟩) (by kernel_rfl) (loadVar_run hM434 0 (b := b11) (k := 4) (vs := [.int .i64 u0.Key, .int .i64 (w64 (bAnd .u8 q116 15)), .int .i64 0, .int .i64 2]) (ty := 62) rfl (by kernel_rfl) (by kernel_rfl)) (by kernel_rfl)) ?_
          exact ⟨((⟨u0.Key, w64 (bAnd .u8 q116 15), 0, 2⟩ : Guard), 0), rfl, hp398, hM434.below⟩
         ·
          have hp435 := hp387.2 hb397; clear hp387
          refine sqH ?_; intro hQ436Q hQ436
          refine s1 hF396 61 (.int .i64 (w64 (bAnd .u8 q116 15))) ?_; intro a437 hF438; clear hF396
          refine s1 hF438 62 (.pointer (some ⟨b6, 1, none⟩)) ?_; intro a439 hF440; clear hF438
          refine sr hF440 hM248 1 [.int .i64 u0.Key, .int .i64 (w64 (bAnd .u8 q116 15)), .int .i64 u0.Bad, .int .i64 u0.State] (b := b6) (off := 1) (cs := [.int .i64 u0.Key, .int .i64 u0.Last, .int .i64 u0.Bad, .int .i64 u0.State]) (ty := 62) (u := .int .i64 (w64 (bAnd .u8 q116 15))) (nog rfl _) rfl rfl (by kernel_rfl) (by kernel_rfl) (by kernel_rfl) (by kernel_rfl) (by kernel_rfl) (by kernel_rfl) (by kernel_rfl) ?_; intro wd441 hM442; clear hM248
          have hM443 : Mem w.heap.size [] w Z [.row b11 [.int .i64 0, .int .i64 0, .int .i64 0, .int .i64 0] 62, .row b6 [.int .i64 u0.Key, .int .i64 (w64 (bAnd .u8 q116 15)), .int .i64 u0.Bad, .int .i64 u0.State] 62] Z wd441 := hM442; clear hM442
          refine nlH (hQ436 _ _ ?_); clear hQ436 hQ436Q
          refine sqH ?_; intro hQ444Q hQ444
          refine s1 hF440 63 (.func (.func 74) #[] #[.pointer (some ⟨b6, 0, none⟩)]) ?_; intro a445 hF446; clear hF440
          refine cl hF446 74 #[.pointer (some ⟨b6, 0, none⟩)] (nog rfl _) rfl (by kernel_rfl) (by kernel_rfl) ?_
          obtain ⟨r451, hr452⟩ : ∃ x, (gbadS (⟨u0.Key, w64 (bAnd .u8 q116 15), u0.Bad, u0.State⟩ : Guard)) = x := ⟨_, rfl⟩; have hp453 := hp435 r451 hr452; clear hp435
          have h9 := gbad_fun (⟨u0.Key, w64 (bAnd .u8 q116 15), u0.Bad, u0.State⟩ : Guard) b6 _ _ _ _ _ _ (hM443.perm (pk 1 rfl)) hM443.fz; rw [hr452] at h9; refine h9.mono ?_; clear h9; rintro _ wd447 ⟨Z455, rfl, hle456, hm⟩; refine ⟨_, rfl, ?_⟩; intro a448 hF449; have hM450 := hm; clear hm hM443 hF446
          replace hs3 := hs3.mono hle456
          replace hP118 := hP118.mono hle456
          replace hP219 := hP219.mono hle456
          replace hle0 := Fz.le.trans hle0 hle456
          have hM457 : Mem w.heap.size [] w Z [.row b6 [.int .i64 r451.2.2.Key, .int .i64 r451.2.2.Last, .int .i64 r451.2.2.Bad, .int .i64 r451.2.2.State] 62, .row b11 [.int .i64 0, .int .i64 0, .int .i64 0, .int .i64 0] 62] Z455 wd447 := hM450; clear hM450
          refine s1 hF449 65 (.agg #[.int .i64 r451.1.Key, .int .i64 r451.1.Last, .int .i64 r451.1.Bad, .int .i64 r451.1.State]) ?_; intro a458 hF459; clear hF449
          refine s1 hF459 66 (.int .i64 r451.2.1) ?_; intro a460 hF461; clear hF459
          refine sr hF461 hM457 1 [.int .i64 r451.1.Key, .int .i64 r451.1.Last, .int .i64 r451.1.Bad, .int .i64 r451.1.State] (b := b11) (off := 0) (cs := [.int .i64 0, .int .i64 0, .int .i64 0, .int .i64 0]) (ty := 62) (u := .agg #[.int .i64 r451.1.Key, .int .i64 r451.1.Last, .int .i64 r451.1.Bad, .int .i64 r451.1.State]) (nog rfl _) rfl rfl (by kernel_rfl) (by kernel_rfl) (by kernel_rfl) (by kernel_rfl) (by kernel_rfl) (by kernel_rfl) (by kernel_rfl) ?_; intro wd462 hM463; clear hM457
          refine s1 hF461 7 (.int .i64 r451.2.1) ?_; intro a464 hF465; clear hF461
          have hM466 : Mem w.heap.size [] w Z [.row b6 [.int .i64 r451.2.2.Key, .int .i64 r451.2.2.Last, .int .i64 r451.2.2.Bad, .int .i64 r451.2.2.State] 62, .row b11 [.int .i64 r451.1.Key, .int .i64 r451.1.Last, .int .i64 r451.1.Bad, .int .i64 r451.1.State] 62] Z455 wd462 := hM463; clear hM463
          refine nlH (hQ444 _ _ ?_); clear hQ444 hQ444Q
          refine wp_ret ?_
          refine ibr ?_
          refine thr ?_
          refine rt (fn := Tryd.f39) (v := .tuple #[.agg #[.int .i64 r451.1.Key, .int .i64 r451.1.Last, .int .i64 r451.1.Bad, .int .i64 r451.1.State], .int .i64 r451.2.1]) hF465 (re2c hF465 (fn := Tryd.f39) rfl (ad := ⟨b11, 0, none⟩) (by kernel_rfl) (loadVar_run hM466 1 (b := b11) (k := 4) (vs := [.int .i64 r451.1.Key, .int .i64 r451.1.Last, .int .i64 r451.1.Bad, .int .i64 r451.1.State]) (ty := 62) rfl (by kernel_rfl) (by kernel_rfl)) (by kernel_rfl)) ?_
          exact ⟨(r451.1, r451.2.1), rfl, hp453, hM466.below⟩

set_option maxRecDepth 100000 in
set_option maxHeartbeats 0 in
theorem beq_walk (u0 : List Int) (u1 : List Int) (ao1 : Option Addr) (cap2 : Nat) (ao4 : Option Addr) (cap5 : Nat) (Z : Fz) (w : World) (hs3 : SlR (tyInt .u8) Z ao1 cap2 u0) (hs6 : SlR (tyInt .u8) Z ao4 cap5 u1) (hZ : Z.on w) {K : Bool → Prop} (hp : beq_vc u0 u1 K) : Calls Tryd.prog 45 #[.slice ao1 u0.length cap2, .slice ao4 u1.length cap5] w fun e w' => ∃ r : Bool, e = .returned (.bool r) ∧ K r ∧ Below w.heap.size w w' := by
 refine enter0 Tryd.func45 rfl rfl (by kernel_rfl) ?_; intro a0 hF0; have hM0 := Mem.start w Z hZ; have hle0 := Fz.le.refl Z
 have hp7 := hp (hs3.small); clear hp
 have hp8 := hp7 (hs6.small); clear hp7
 refine sqH ?_; intro hQ9Q hQ9
 refine s1 hF0 4 (.bool false) ?_; intro a10 hF11; clear hF0
 refine nlH (hQ9 _ _ ?_); clear hQ9 hQ9Q
 refine wp_seq ?_
 refine sqH ?_; intro hQ12Q hQ12
 refine s1 hF11 6 (.slice ao1 u0.length cap2) ?_; intro a13 hF14; clear hF11
 refine s1 hF14 7 (.int .i64 (u0.length : Int)) ?_; intro a15 hF16; clear hF14
 refine s1 hF16 8 (.slice ao4 u1.length cap5) ?_; intro a17 hF18; clear hF16
 refine s1 hF18 9 (.int .i64 (u1.length : Int)) ?_; intro a19 hF20; clear hF18
 refine s1 hF20 10 (.bool ((u0.length : Int) != (u1.length : Int))) ?_; intro a21 hF22; clear hF20
 refine nlH (hQ12 _ _ ?_); clear hQ12 hQ12Q
 refine cd hF22 (t := (u0.length : Int) != (u1.length : Int)) (by kernel_rfl) (fun hb23 => ?_) (fun hb23 => ?_)
 ·
  have hp24 := hp8.1 hb23; clear hp8
  refine sqH ?_; intro hQ25Q hQ25
  refine s1 hF22 4 (.bool false) ?_; intro a26 hF27; clear hF22
  refine nlH (hQ25 _ _ ?_); clear hQ25 hQ25Q
  refine wp_ret ?_
  refine thr ?_
  refine rt (fn := Tryd.f45) (v := .bool false) hF27 (re1 hF27 (fn := Tryd.f45) rfl (by kernel_rfl)) ?_
  exact ⟨false, rfl, hp24, hM0.below⟩
 ·
  have hp28 := hp8.2 hb23; clear hp8
  refine wp_skip ?_
  refine thn ?_
  refine wp_seq ?_
  refine sqH ?_; intro hQ29Q hQ29
  refine s1 hF22 11 (.slice ao1 u0.length cap2) ?_; intro a30 hF31; clear hF22
  refine s1 hF31 12 (.int .i64 (u0.length : Int)) ?_; intro a32 hF33; clear hF31
  refine s1 hF33 13 (.int .i64 0) ?_; intro a34 hF35; clear hF33
  refine nlH (hQ29 _ _ ?_); clear hQ29 hQ29Q
  refine wp_block ?_
  have hF36 : Fr 26 [] [⟨0, [], .slice ao1 u0.length cap2⟩, ⟨1, [], .slice ao4 u1.length cap5⟩, ⟨12, [], .int .i64 (u0.length : Int)⟩, ⟨13, [], .int .i64 0⟩] a34 := hF35.reg; clear hF35
  have hF38 : Fr 26 [] [⟨0, [], .slice ao1 u0.length cap2⟩, ⟨1, [], .slice ao4 u1.length cap5⟩, ⟨12, [], .int .i64 (u0.length : Int)⟩, ⟨13, [], .int .i64 0⟩] a34 := hF36.reg; clear hF36
  obtain ⟨inv37, mu37, hI41, hr40⟩ := hp28
  refine lp (ι := Int) (fun (s : Int) => [⟨0, [], .slice ao1 u0.length cap2⟩, ⟨1, [], .slice ao4 u1.length cap5⟩, ⟨12, [], .int .i64 (u0.length : Int)⟩, ⟨13, [], .int .i64 s⟩]) (fun (s : Int) => []) (fun (s : Int) => Z) (fun (s : Int) => inv37 s) (fun (s : Int) => mu37 s) 0 hI41 (by exact hF38.reg) (by exact hM0) ?_
  rintro x13 hI39 a43 wd44 hF45 hM46
  have hF47 : Fr 26 [] [⟨0, [], .slice ao1 u0.length cap2⟩, ⟨1, [], .slice ao4 u1.length cap5⟩, ⟨12, [], .int .i64 (u0.length : Int)⟩, ⟨13, [], .int .i64 x13⟩] a43 := hF45; clear hF45 hF38
  have hM48 : Mem w.heap.size [] w Z [] Z wd44 := hM46; clear hM46 hM0
  have hp49 := hr40 x13 hI39
  refine sqH ?_; intro hQ50Q hQ50
  refine s1 hF47 14 (.bool (decide (x13 < (u0.length : Int)))) ?_; intro a51 hF52; clear hF47
  refine nlH (hQ50 _ _ ?_); clear hQ50 hQ50Q
  refine wp_seq ?_
  refine cd hF52 (t := decide (x13 < (u0.length : Int))) (by kernel_rfl) (fun hb53 => ?_) (fun hb53 => ?_)
  ·
   have hp54 := hp49.1 hb53; clear hp49
   refine wp_skip ?_
   refine thn ?_
   refine wp_seq ?_
   refine wp_block ?_
   refine sqH ?_; intro hQ55Q hQ55
   refine s1 hF52 15 (.int .i64 x13) ?_; intro a56 hF57; clear hF52
   refine s1 hF57 5 (.int .i64 x13) ?_; intro a58 hF59; clear hF57
   refine nlH (hQ55 _ _ ?_); clear hQ55 hQ55Q
   have hF60 : Fr 26 [] [⟨0, [], .slice ao1 u0.length cap2⟩, ⟨1, [], .slice ao4 u1.length cap5⟩, ⟨5, [], .int .i64 x13⟩, ⟨12, [], .int .i64 (u0.length : Int)⟩, ⟨13, [], .int .i64 x13⟩] a58 := hF59.reg; clear hF59
   refine sqQH mixed (by kernel_rfl) hM48 ?_; intro hQ61Q hQ61
   refine q1 hF60 16 (.slice ao1 u0.length cap2) ?_; intro a63 hF64; clear hF60
   refine q1 hF64 17 (.int .i64 x13) ?_; intro a66 hF67; clear hF64
   have hc69 := hp54.1; have hp70 := hp54.2; clear hp54
   refine qix hF67 (T := (tyInt .u8)) (xs := u0) hs3 x13 hc69 (k := .i64) (e := 5) (bytes := 1) (nog rfl _) rfl (by kernel_rfl) rfl (by kernel_rfl) (by kernel_rfl) (by kernel_rfl) ?_; intro b71 off72 cs73 q74 a78 hq75 hP76 hT77 hF79; clear hF67
   have hp80 := hp70 q74 hq75; clear hp70
   obtain rfl : cs73 = ([.int .u8 q74] : List Value) := hT77
   refine qst hF79 (.int .u8 q74) (nog rfl _) rfl (by kernel_rfl) (fun v81 hC => lz hF79 hC.fz hP76 0 (g := []) rfl (by kernel_rfl) (by kernel_rfl) (by kernel_rfl) rfl) ?_; intro a82 hF83; clear hF79
   refine q1 hF83 20 (.slice ao4 u1.length cap5) ?_; intro a85 hF86; clear hF83
   refine q1 hF86 21 (.int .i64 x13) ?_; intro a88 hF89; clear hF86
   have hc91 := hp80.1; have hp92 := hp80.2; clear hp80
   refine qix hF89 (T := (tyInt .u8)) (xs := u1) hs6 x13 hc91 (k := .i64) (e := 5) (bytes := 1) (nog rfl _) rfl (by kernel_rfl) rfl (by kernel_rfl) (by kernel_rfl) (by kernel_rfl) ?_; intro b93 off94 cs95 q96 a100 hq97 hP98 hT99 hF101; clear hF89
   have hp102 := hp92 q96 hq97; clear hp92
   obtain rfl : cs95 = ([.int .u8 q96] : List Value) := hT99
   refine qst hF101 (.int .u8 q96) (nog rfl _) rfl (by kernel_rfl) (fun v103 hC => lz hF101 hC.fz hP98 0 (g := []) rfl (by kernel_rfl) (by kernel_rfl) (by kernel_rfl) rfl) ?_; intro a104 hF105; clear hF101
   refine q1 hF105 24 (.bool (q74 != q96)) ?_; intro a107 hF108; clear hF105
   refine qnl (hQ61 _ ?_); clear hQ61 hQ61Q; intro wd109 hM110; clear hM48
   refine cd hF108 (t := q74 != q96) (by kernel_rfl) (fun hb111 => ?_) (fun hb111 => ?_)
   ·
    have hp112 := hp102.1 hb111; clear hp102
    refine sqH ?_; intro hQ113Q hQ113
    refine s1 hF108 4 (.bool false) ?_; intro a114 hF115; clear hF108
    refine nlH (hQ113 _ _ ?_); clear hQ113 hQ113Q
    refine wp_ret ?_
    refine ibr ?_
    refine thr ?_
    refine thr ?_
    refine ibr ?_
    refine thr ?_
    refine rt (fn := Tryd.f45) (v := .bool false) hF115 (re1 hF115 (fn := Tryd.f45) rfl (by kernel_rfl)) ?_
    exact ⟨false, rfl, hp112, hM110.below⟩
   ·
    have hp116 := hp102.2 hb111; clear hp102
    refine wp_skip ?_
    refine ibn ?_
    refine thn ?_
    refine rgH ?_; intro hQ117Q hQ117
    refine s1 hF108 25 (.int .i64 (w64 (x13 + 1))) ?_; intro a118 hF119; clear hF108
    refine s1 hF119 13 (.int .i64 (w64 (x13 + 1))) ?_; intro a120 hF121; clear hF119
    refine nlH (hQ117 _ _ ?_); clear hQ117 hQ117Q
    refine rd ?_
    exact ⟨w64 (x13 + 1), hp116.1, hp116.2, (hF121.reg).anyβ _ (by kernel_rfl), hM110.keep (List.Sublist.slnil)⟩
  ·
   have hp122 := hp49.2 hb53; clear hp49
   refine wp_exit ?_
   refine thx ?_
   refine thx ?_
   refine ibx ?_
   refine thn ?_
   refine sqH ?_; intro hQ123Q hQ123
   refine s1 hF52 4 (.bool true) ?_; intro a124 hF125; clear hF52
   refine nlH (hQ123 _ _ ?_); clear hQ123 hQ123Q
   refine wp_ret ?_
   refine rt (fn := Tryd.f45) (v := .bool true) hF125 (re1 hF125 (fn := Tryd.f45) rfl (by kernel_rfl)) ?_
   exact ⟨true, rfl, hp122, hM48.below⟩

set_option maxRecDepth 100000 in
set_option maxHeartbeats 0 in
theorem rofb_walk (u0 : List Int) (ao1 : Option Addr) (cap2 : Nat) (Z : Fz) (w : World) (hs3 : SlR (tyInt .u8) Z ao1 cap2 u0) (hg5 : SlR (tyInt .u8) Z (some ⟨5, 0, none⟩) 64 deBruijn64) (hZ : Z.on w) {K : (List UInt8) → Prop} (hp : rofb_vc u0 K) : Calls Tryd.prog 76 #[.slice ao1 u0.length cap2] w fun e w' => ∃ r : (List UInt8), e = .returned (str r) ∧ K r ∧ Below w.heap.size w w' := by
 refine enter0 Tryd.func76 rfl rfl (by kernel_rfl) ?_; intro a0 hF0; have hM0 := Mem.start w Z hZ; have hle0 := Fz.le.refl Z
 have hp4 := hp (hs3.small); clear hp
 refine sqH ?_; intro hQ5Q hQ5
 refine s1 hF0 2 (str []) ?_; intro a6 hF7; clear hF0
 refine nlH (hQ5 _ _ ?_); clear hQ5 hQ5Q
 refine sqH ?_; intro hQ8Q hQ8
 refine s1 hF7 3 (str []) ?_; intro a9 hF10; clear hF7
 refine nlH (hQ8 _ _ ?_); clear hQ8 hQ8Q
 refine wp_seq ?_
 refine sqH ?_; intro hQ11Q hQ11
 refine s1 hF10 7 (.slice ao1 u0.length cap2) ?_; intro a12 hF13; clear hF10
 refine s1 hF13 8 (.int .i64 (u0.length : Int)) ?_; intro a14 hF15; clear hF13
 refine s1 hF15 9 (.int .i64 0) ?_; intro a16 hF17; clear hF15
 refine nlH (hQ11 _ _ ?_); clear hQ11 hQ11Q
 refine wp_block ?_
 have hF18 : Fr 26 [] [⟨3, [], str []⟩, ⟨7, [], .slice ao1 u0.length cap2⟩, ⟨8, [], .int .i64 (u0.length : Int)⟩, ⟨9, [], .int .i64 0⟩] a16 := hF17.reg; clear hF17
 have hF20 : Fr 26 [] [⟨3, [], str []⟩, ⟨7, [], .slice ao1 u0.length cap2⟩, ⟨8, [], .int .i64 (u0.length : Int)⟩, ⟨9, [], .int .i64 0⟩] a16 := hF18.reg; clear hF18
 obtain ⟨inv19, mu19, hI23, hr22⟩ := hp4
 refine lp (ι := (List UInt8) × Int) (fun (s : (List UInt8) × Int) => [⟨3, [], str s.1⟩, ⟨7, [], .slice ao1 u0.length cap2⟩, ⟨8, [], .int .i64 (u0.length : Int)⟩, ⟨9, [], .int .i64 s.2⟩]) (fun (s : (List UInt8) × Int) => []) (fun (s : (List UInt8) × Int) => Z) (fun (s : (List UInt8) × Int) => inv19 s.1 s.2) (fun (s : (List UInt8) × Int) => mu19 s.1 s.2) ⟨[], 0⟩ hI23 (by exact hF20.reg) (by exact hM0) ?_
 rintro ⟨x3, x9⟩ hI21 a25 wd26 hF27 hM28
 have hF29 : Fr 26 [] [⟨3, [], str x3⟩, ⟨7, [], .slice ao1 u0.length cap2⟩, ⟨8, [], .int .i64 (u0.length : Int)⟩, ⟨9, [], .int .i64 x9⟩] a25 := hF27; clear hF27 hF20
 have hM30 : Mem w.heap.size [] w Z [] Z wd26 := hM28; clear hM28 hM0
 have hp31 := hr22 x3 x9 hI21
 refine sqH ?_; intro hQ32Q hQ32
 refine s1 hF29 10 (.bool (decide (x9 < (u0.length : Int)))) ?_; intro a33 hF34; clear hF29
 refine nlH (hQ32 _ _ ?_); clear hQ32 hQ32Q
 refine wp_seq ?_
 refine cd hF34 (t := decide (x9 < (u0.length : Int))) (by kernel_rfl) (fun hb35 => ?_) (fun hb35 => ?_)
 ·
  have hp36 := hp31.1 hb35; clear hp31
  refine wp_skip ?_
  refine thn ?_
  refine wp_seq ?_
  refine wp_block ?_
  refine sqH ?_; intro hQ37Q hQ37
  have hc38 := hp36.1; have hp39 := hp36.2; clear hp36
  refine ix hF34 (T := (tyInt .u8)) (xs := u0) hs3 x9 hc38 (k := .i64) (e := 5) (bytes := 1) (nog rfl _) rfl (by kernel_rfl) rfl (by kernel_rfl) (by kernel_rfl) (by kernel_rfl) ?_; intro b40 off41 cs42 q43 a47 hq44 hP45 hT46 hF48; clear hF34
  have hp49 := hp39 q43 hq44; clear hp39
  obtain rfl : cs42 = ([.int .u8 q43] : List Value) := hT46
  refine z1 hF48 hM30 12 hP45 0 (.int .u8 q43) rfl ?_; intro a50 hF51; clear hF48
  refine s1 hF51 5 (.int .u8 q43) ?_; intro a52 hF53; clear hF51
  refine nlH (hQ37 _ _ ?_); clear hQ37 hQ37Q
  refine sqH ?_; intro hQ54Q hQ54
  refine s1 hF53 13 (.int .u8 q43) ?_; intro a55 hF56; clear hF53
  refine s1 hF56 14 (.int .i64 (w64 q43)) ?_; intro a57 hF58; clear hF56
  refine cl hF58 98 #[.int .i64 (w64 q43), .int .i64 2] (nog rfl _) rfl (by kernel_rfl) (by kernel_rfl) ?_
  refine (fint1_walk (w64 q43) _ _ hg5 hM30.fz hp49).mono ?_; rintro _ wd60 ⟨r59, rfl, hp64, hb⟩; refine ⟨_, rfl, ?_⟩; intro a61 hF62; have hM63 := hM30.call hb; clear hb hM30 hF58
  refine s1 hF62 6 (str r59) ?_; intro a65 hF66; clear hF62
  refine nlH (hQ54 _ _ ?_); clear hQ54 hQ54Q
  refine rgH ?_; intro hQ67Q hQ67
  refine s1 hF66 16 (str x3) ?_; intro a68 hF69; clear hF66
  refine s1 hF69 17 (str r59) ?_; intro a70 hF71; clear hF69
  refine s1 hF71 18 (.int .i64 (r59.length : Int)) ?_; intro a72 hF73; clear hF71
  refine s1 hF73 19 (.int .i64 (w64 (8 - (r59.length : Int)))) ?_; intro a74 hF75; clear hF73
  have hc76 := hp64.1; have hp77 := hp64.2; clear hp64
  refine fcl hF75 hM63 (str (srepS ([48] : List UInt8) (w64 (8 - (r59.length : Int))))) 99 #[str ([48] : List UInt8), .int .i64 (w64 (8 - (r59.length : Int)))] (nog rfl _) rfl (by kernel_rfl) (fun _ => by kernel_rfl) (srep_fun ([48] : List UInt8) (w64 (8 - (r59.length : Int))) hc76 _ _ hM63.fz) ?_; intro a78 wd80 hF79 hM81; clear hF75 hM63
  refine s1 hF79 21 (str r59) ?_; intro a82 hF83; clear hF79
  have hc84 := hp77.1; have hp85 := hp77.2; clear hp77
  refine st hF83 (str ((srepS ([48] : List UInt8) (w64 (8 - (r59.length : Int)))) ++ r59)) (nog rfl _) rfl (by kernel_rfl) (stradd_run hF83 (g := []) rfl (by kernel_rfl) (by kernel_rfl) hc84 rfl) ?_; intro a86 hF87; clear hF83
  have hc88 := hp85.1; have hp89 := hp85.2; clear hp85
  refine st hF87 (str (x3 ++ ((srepS ([48] : List UInt8) (w64 (8 - (r59.length : Int)))) ++ r59))) (nog rfl _) rfl (by kernel_rfl) (stradd_run hF87 (g := []) rfl (by kernel_rfl) (by kernel_rfl) hc88 rfl) ?_; intro a90 hF91; clear hF87
  refine s1 hF91 3 (str (x3 ++ ((srepS ([48] : List UInt8) (w64 (8 - (r59.length : Int)))) ++ r59))) ?_; intro a92 hF93; clear hF91
  refine nlH (hQ67 _ _ ?_); clear hQ67 hQ67Q
  refine ibn ?_
  refine thn ?_
  have hF94 : Fr 26 [] [⟨3, [], str (x3 ++ ((srepS ([48] : List UInt8) (w64 (8 - (r59.length : Int)))) ++ r59))⟩, ⟨7, [], .slice ao1 u0.length cap2⟩, ⟨8, [], .int .i64 (u0.length : Int)⟩, ⟨9, [], .int .i64 x9⟩] a92 := hF93.reg; clear hF93
  refine rgH ?_; intro hQ95Q hQ95
  refine s1 hF94 24 (.int .i64 (w64 (x9 + 1))) ?_; intro a96 hF97; clear hF94
  refine s1 hF97 9 (.int .i64 (w64 (x9 + 1))) ?_; intro a98 hF99; clear hF97
  refine nlH (hQ95 _ _ ?_); clear hQ95 hQ95Q
  refine rd ?_
  exact ⟨⟨x3 ++ ((srepS ([48] : List UInt8) (w64 (8 - (r59.length : Int)))) ++ r59), w64 (x9 + 1)⟩, hp89.1, hp89.2, (hF99.reg).anyβ _ (by kernel_rfl), hM81.keep (List.Sublist.slnil)⟩
 ·
  have hp100 := hp31.2 hb35; clear hp31
  refine wp_exit ?_
  refine thx ?_
  refine thx ?_
  refine ibx ?_
  refine thn ?_
  refine sqH ?_; intro hQ101Q hQ101
  refine s1 hF34 25 (str x3) ?_; intro a102 hF103; clear hF34
  refine s1 hF103 2 (str x3) ?_; intro a104 hF105; clear hF103
  refine nlH (hQ101 _ _ ?_); clear hQ101 hQ101Q
  refine wp_ret ?_
  refine rt (fn := Tryd.f76) (v := str x3) hF105 (re1 hF105 (fn := Tryd.f76) rfl (by kernel_rfl)) ?_
  exact ⟨x3, rfl, hp100, hM30.below⟩

end Go.Proofs.YtinegicenfndkaaDoor
