/- The walks, made by program: each call does what its pure predicate says. -/
import Derived.Test.YtinegicenfndkaaDoorWGf
set_option linter.unusedVariables false
set_option linter.unusedSimpArgs false
namespace Go.Proofs.YtinegicenfndkaaDoor
open Go.Sy Go.RowKit
set_option maxRecDepth 100000 in
set_option maxHeartbeats 0 in
theorem LGPut_walk (u0 : Int) (u1 : Int) (u2 : List Int) (ao1 : Option Addr) (cap2 : Nat) (Z : Fz) (w : World) (hs3 : SlR (tyInt .u8) Z ao1 cap2 u2) (hg5 : SlR (tyInt .u8) Z (some ⟨5, 0, none⟩) 64 deBruijn64) (hZ : Z.on w) {K : Bool → Prop} (hp : LGPut_vc u0 u1 u2 K) : Calls Tryd.prog 10 #[.int .i64 u0, .int .i64 u1, .slice ao1 u2.length cap2] w fun e w' => ∃ r : Bool, e = .returned (.bool r) ∧ K r ∧ Below w.heap.size w w' := by
 refine enter0 Tryd.func10 rfl rfl (by kernel_rfl) ?_; intro a0 hF0; have hM0 := Mem.start w Z hZ; have hle0 := Fz.le.refl Z
 have hp4 := hp (hs3.small); clear hp
 refine sqH ?_; intro hQ5Q hQ5
 refine s1 hF0 6 (.bool false) ?_; intro a6 hF7; clear hF0
 refine nlH (hQ5 _ _ ?_); clear hQ5 hQ5Q
 refine sqH ?_; intro hQ8Q hQ8
 refine s1 hF7 12 (.slice ao1 u2.length cap2) ?_; intro a9 hF10; clear hF7
 have hc11 := hp4.1; have hp12 := hp4.2; clear hp4
 refine cl hF10 43 #[.slice ao1 u2.length cap2] (nog rfl _) rfl (by kernel_rfl) (by kernel_rfl) ?_
 refine (bclone_fun u2 hc11 ao1 cap2 _ _ hs3 hM0.fz).mono ?_; rintro _ wd13 ⟨ao17, cap18, Z19, rfl, hm⟩; refine ⟨_, rfl, ?_⟩; intro a14 hF15; have hM16 := hM0.callZ hm; have hle20 := hm.ext.le; clear hm hM0 hF10
 replace hs3 := hs3.mono hle20
 replace hg5 := hg5.mono hle20
 replace hle0 := Fz.le.trans hle0 hle20
 have hM21 : Mem w.heap.size [] w Z [.own (tyInt .u8) 5 ao17 cap18 (bcloneS u2)] Z19 wd13 := hM16; clear hM16
 have hp22 := hp12 (hM21.ownSmall 0 rfl); clear hp12
 refine s1 hF15 7 (.slice ao17 (bcloneS u2).length cap18) ?_; intro a23 hF24; clear hF15
 refine nlH (hQ8 _ _ ?_); clear hQ8 hQ8Q
 refine sqH ?_; intro hQ25Q hQ25
 refine s1 hF24 15 (.int .i64 u0) ?_; intro a26 hF27; clear hF24
 refine s1 hF27 16 (.int .i64 u1) ?_; intro a28 hF29; clear hF27
 refine s1 hF29 17 (.slice ao17 (bcloneS u2).length cap18) ?_; intro a30 hF31; clear hF29
 obtain ⟨Z32, hle33, hM34, hs35⟩ := hM21.freeze 0 rfl
 replace hs3 := hs3.mono hle33
 replace hg5 := hg5.mono hle33
 replace hle0 := Fz.le.trans hle0 hle33
 have hM36 : Mem w.heap.size [] w Z [] Z32 wd13 := hM34; clear hM34
 have hc37 := hp22.1; have hp38 := hp22.2; clear hp22
 refine cl hF31 44 #[.int .i64 u0, .int .i64 u1, .slice ao17 (bcloneS u2).length cap18] (nog rfl _) rfl (by kernel_rfl) (by kernel_rfl) ?_
 refine (gput_fun u0 u1 (bcloneS u2) hc37 ao17 cap18 _ _ hs35 hM36.fz).mono ?_; rintro _ wd39 ⟨ao43, cap44, Z45, rfl, hm⟩; refine ⟨_, rfl, ?_⟩; intro a40 hF41; have hM42 := hM36.callZ hm; have hle46 := hm.ext.le; clear hm hM36 hF31
 replace hs3 := hs3.mono hle46
 replace hg5 := hg5.mono hle46
 replace hs35 := hs35.mono hle46
 replace hle0 := Fz.le.trans hle0 hle46
 have hM47 : Mem w.heap.size [] w Z [.own (tyInt .u8) 5 ao43 cap44 ((gputS u0 u1 (bcloneS u2)).1)] Z45 wd39 := hM42; clear hM42
 have hp48 := hp38 (hM47.ownSmall 0 rfl); clear hp38
 refine s1 hF41 14 (.tuple #[.slice ao43 ((gputS u0 u1 (bcloneS u2)).1).length cap44, .int .i64 ((gputS u0 u1 (bcloneS u2)).2)]) ?_; intro a49 hF50; clear hF41
 refine s1 hF50 19 (.slice ao43 ((gputS u0 u1 (bcloneS u2)).1).length cap44) ?_; intro a51 hF52; clear hF50
 refine s1 hF52 20 (.int .i64 ((gputS u0 u1 (bcloneS u2)).2)) ?_; intro a53 hF54; clear hF52
 refine s1 hF54 8 (.slice ao43 ((gputS u0 u1 (bcloneS u2)).1).length cap44) ?_; intro a55 hF56; clear hF54
 refine s1 hF56 9 (.int .i64 ((gputS u0 u1 (bcloneS u2)).2)) ?_; intro a57 hF58; clear hF56
 refine nlH (hQ25 _ _ ?_); clear hQ25 hQ25Q
 refine sqH ?_; intro hQ59Q hQ59
 refine s1 hF58 10 (.int .i64 0) ?_; intro a60 hF61; clear hF58
 refine nlH (hQ59 _ _ ?_); clear hQ59 hQ59Q
 refine wp_seq ?_
 refine wp_block ?_
 have hF62 : Fr 96 [] [⟨0, [], .int .i64 u0⟩, ⟨1, [], .int .i64 u1⟩, ⟨2, [], .slice ao1 u2.length cap2⟩, ⟨7, [], .slice ao17 (bcloneS u2).length cap18⟩, ⟨8, [], .slice ao43 ((gputS u0 u1 (bcloneS u2)).1).length cap44⟩, ⟨9, [], .int .i64 ((gputS u0 u1 (bcloneS u2)).2)⟩, ⟨10, [], .int .i64 0⟩] a60 := hF61.reg; clear hF61
 refine sqH ?_; intro hQ63Q hQ63
 refine s1 hF62 22 (.int .i64 u0) ?_; intro a64 hF65; clear hF62
 refine s1 hF65 23 (.bool (decide (u0 < 0))) ?_; intro a66 hF67; clear hF65
 refine s1 hF67 24 (.bool (decide (u0 < 0))) ?_; intro a68 hF69; clear hF67
 have hF70 := hF69.atom ((decide (u0 < 0)) == false) (by kernel_rfl); clear hF69
 refine gp hF70 25 0 [] (decide (u0 < 0)) (.int .i64 u0) rfl rfl ?_; intro a71 hF72; clear hF70
 refine gp hF72 26 0 [] (decide (u0 < 0)) (.bool (decide (u0 > 65535))) rfl rfl ?_; intro a73 hF74; clear hF72
 refine st hF74 (.bool ((decide (u0 < 0)) || (decide (u0 > 65535)))) (nog rfl _) rfl (by kernel_rfl) (pk_or hF74 (g := []) (m := 0) (b := decide (u0 < 0)) (v := decide (u0 > 65535)) rfl (by kernel_rfl) (by kernel_rfl) (by kernel_rfl) rfl) ?_; intro a75 hF76; clear hF74
 refine s1 hF76 28 (.bool ((decide (u0 < 0)) || (decide (u0 > 65535)))) ?_; intro a77 hF78; clear hF76
 have hF79 := hF78.atom (((decide (u0 < 0)) || (decide (u0 > 65535))) == false) (by kernel_rfl); clear hF78
 refine gp hF79 29 1 [] ((decide (u0 < 0)) || (decide (u0 > 65535))) (.int .i64 u1) rfl rfl ?_; intro a80 hF81; clear hF79
 refine gp hF81 30 1 [] ((decide (u0 < 0)) || (decide (u0 > 65535))) (.bool (decide (u1 < 0))) rfl rfl ?_; intro a82 hF83; clear hF81
 refine st hF83 (.bool (((decide (u0 < 0)) || (decide (u0 > 65535))) || (decide (u1 < 0)))) (nog rfl _) rfl (by kernel_rfl) (pk_or hF83 (g := []) (m := 1) (b := (decide (u0 < 0)) || (decide (u0 > 65535))) (v := decide (u1 < 0)) rfl (by kernel_rfl) (by kernel_rfl) (by kernel_rfl) rfl) ?_; intro a84 hF85; clear hF83
 refine s1 hF85 32 (.bool (((decide (u0 < 0)) || (decide (u0 > 65535))) || (decide (u1 < 0)))) ?_; intro a86 hF87; clear hF85
 have hF88 := hF87.atom ((((decide (u0 < 0)) || (decide (u0 > 65535))) || (decide (u1 < 0))) == false) (by kernel_rfl); clear hF87
 refine gp hF88 33 2 [] (((decide (u0 < 0)) || (decide (u0 > 65535))) || (decide (u1 < 0))) (.int .i64 u1) rfl rfl ?_; intro a89 hF90; clear hF88
 refine gp hF90 34 2 [] (((decide (u0 < 0)) || (decide (u0 > 65535))) || (decide (u1 < 0))) (.bool (decide (u1 > 14))) rfl rfl ?_; intro a91 hF92; clear hF90
 refine st hF92 (.bool ((((decide (u0 < 0)) || (decide (u0 > 65535))) || (decide (u1 < 0))) || (decide (u1 > 14)))) (nog rfl _) rfl (by kernel_rfl) (pk_or hF92 (g := []) (m := 2) (b := ((decide (u0 < 0)) || (decide (u0 > 65535))) || (decide (u1 < 0))) (v := decide (u1 > 14)) rfl (by kernel_rfl) (by kernel_rfl) (by kernel_rfl) rfl) ?_; intro a93 hF94; clear hF92
 refine s1 hF94 21 (.bool ((((decide (u0 < 0)) || (decide (u0 > 65535))) || (decide (u1 < 0))) || (decide (u1 > 14)))) ?_; intro a95 hF96; clear hF94
 refine nlH (hQ63 _ _ ?_); clear hQ63 hQ63Q
 refine cd hF96 (t := (((decide (u0 < 0)) || (decide (u0 > 65535))) || (decide (u1 < 0))) || (decide (u1 > 14))) (by kernel_rfl) (fun hb97 => ?_) (fun hb97 => ?_)
 ·
  have hp98 := hp48.1 hb97; clear hp48
  have hF99 : Fr 96 [] [⟨0, [], .int .i64 u0⟩, ⟨1, [], .int .i64 u1⟩, ⟨2, [], .slice ao1 u2.length cap2⟩, ⟨7, [], .slice ao17 (bcloneS u2).length cap18⟩, ⟨8, [], .slice ao43 ((gputS u0 u1 (bcloneS u2)).1).length cap44⟩, ⟨9, [], .int .i64 ((gputS u0 u1 (bcloneS u2)).2)⟩] a95 := hF96.reg; clear hF96
  refine rgH ?_; intro hQ100Q hQ100
  refine s1 hF99 10 (.int .i64 3) ?_; intro a101 hF102; clear hF99
  refine nlH (hQ100 _ _ ?_); clear hQ100 hQ100Q
  refine ibn ?_
  refine thn ?_
  refine wp_seq ?_
  refine sqH ?_; intro hQ103Q hQ103
  refine fcl hF102 hM47 (.bool true) 40 #[] (nog rfl _) rfl (by kernel_rfl) (fun _ => by kernel_rfl) (guarded_fun  _ _ hM47.fz) ?_; intro a104 wd106 hF105 hM107; clear hF102 hM47
  refine s1 hF105 45 (.bool false) ?_; intro a108 hF109; clear hF105
  refine s1 hF109 46 (.bool false) ?_; intro a110 hF111; clear hF109
  refine st hF111 (.slice ao17 (bcloneS u2).length cap18) (by rw [wanted_of hF111 (b := false) rfl rfl (by kernel_rfl) (by kernel_rfl)]; rfl) rfl (by kernel_rfl) (p0 hF111 (by kernel_rfl)) ?_; intro a112 hF113; clear hF111
  refine st hF113 (.slice ao1 u2.length cap2) (by rw [wanted_of hF113 (b := false) rfl rfl (by kernel_rfl) (by kernel_rfl)]; rfl) rfl (by kernel_rfl) (p0 hF113 (by kernel_rfl)) ?_; intro a114 hF115; clear hF113
  refine fcl hF115 hM107 (.bool (beqS (bcloneS u2) u2)) 45 #[.slice ao17 (bcloneS u2).length cap18, .slice ao1 u2.length cap2] (by rw [wanted_of hF115 (b := false) rfl rfl (by kernel_rfl) (by kernel_rfl)]; rfl) rfl (by kernel_rfl) (fun _ => by kernel_rfl) (beq_fun (bcloneS u2) u2 ao17 cap18 ao1 cap2 _ _ hs35 hs3 hM107.fz) ?_; intro a116 wd118 hF117 hM119; clear hF115 hM107
  refine st hF117 (.bool (!(beqS (bcloneS u2) u2))) (by rw [wanted_of hF117 (b := false) rfl rfl (by kernel_rfl) (by kernel_rfl)]; rfl) rfl (by kernel_rfl) (p0 hF117 (by kernel_rfl)) ?_; intro a120 hF121; clear hF117
  refine s1 hF121 51 (.bool (!(beqS (bcloneS u2) u2))) ?_; intro a122 hF123; clear hF121
  refine s1 hF123 52 (.bool (!(beqS (bcloneS u2) u2))) ?_; intro a124 hF125; clear hF123
  have hF126 := hF125.atom ((!(beqS (bcloneS u2) u2)) == false) (by kernel_rfl); clear hF125
  refine gp hF126 53 0 [] (!(beqS (bcloneS u2) u2)) (.int .i64 3) rfl rfl ?_; intro a127 hF128; clear hF126
  refine gp hF128 54 0 [] (!(beqS (bcloneS u2) u2)) (.bool true) rfl rfl ?_; intro a129 hF130; clear hF128
  refine st hF130 (.bool ((!(beqS (bcloneS u2) u2)) || true)) (nog rfl _) rfl (by kernel_rfl) (pk_or hF130 (g := []) (m := 0) (b := !(beqS (bcloneS u2) u2)) (v := true) rfl (by kernel_rfl) (by kernel_rfl) (by kernel_rfl) rfl) ?_; intro a131 hF132; clear hF130
  refine nlH (hQ103 _ _ ?_); clear hQ103 hQ103Q
  refine cd hF132 (t := (!(beqS (bcloneS u2) u2)) || true) (by kernel_rfl) (fun hb133 => ?_) (fun hb133 => ?_)
  ·
   have hp134 := hp98.1 hb133; clear hp98
   have hF135 : Fr 96 [] [⟨2, [], .slice ao1 u2.length cap2⟩, ⟨7, [], .slice ao17 (bcloneS u2).length cap18⟩, ⟨8, [], .slice ao43 ((gputS u0 u1 (bcloneS u2)).1).length cap44⟩, ⟨9, [], .int .i64 ((gputS u0 u1 (bcloneS u2)).2)⟩, ⟨10, [], .int .i64 3⟩] a131 := hF132.reg; clear hF132
   refine sqH ?_; intro hQ136Q hQ136
   refine fcl hF135 hM119 (.bool true) 40 #[] (nog rfl _) rfl (by kernel_rfl) (fun _ => by kernel_rfl) (guarded_fun  _ _ hM119.fz) ?_; intro a137 wd139 hF138 hM140; clear hF135 hM119
   refine s1 hF138 57 (.bool true) ?_; intro a141 hF142; clear hF138
   refine st hF142 (.slice ao17 (bcloneS u2).length cap18) (by rw [wanted_of hF142 (b := true) rfl rfl (by kernel_rfl) (by kernel_rfl)]; rfl) rfl (by kernel_rfl) (p0 hF142 (by kernel_rfl)) ?_; intro a143 hF144; clear hF142
   refine st hF144 (.slice ao1 u2.length cap2) (by rw [wanted_of hF144 (b := true) rfl rfl (by kernel_rfl) (by kernel_rfl)]; rfl) rfl (by kernel_rfl) (p0 hF144 (by kernel_rfl)) ?_; intro a145 hF146; clear hF144
   refine fcl hF146 hM140 (.bool (beqS (bcloneS u2) u2)) 45 #[.slice ao17 (bcloneS u2).length cap18, .slice ao1 u2.length cap2] (by rw [wanted_of hF146 (b := true) rfl rfl (by kernel_rfl) (by kernel_rfl)]; rfl) rfl (by kernel_rfl) (fun _ => by kernel_rfl) (beq_fun (bcloneS u2) u2 ao17 cap18 ao1 cap2 _ _ hs35 hs3 hM140.fz) ?_; intro a147 wd149 hF148 hM150; clear hF146 hM140
   refine s1 hF148 61 (.bool (beqS (bcloneS u2) u2)) ?_; intro a151 hF152; clear hF148
   refine s1 hF152 62 (.bool (beqS (bcloneS u2) u2)) ?_; intro a153 hF154; clear hF152
   have hF155 := hF154.atom ((beqS (bcloneS u2) u2) == true) (by kernel_rfl); clear hF154
   refine gp hF155 63 0 [] ((beqS (bcloneS u2) u2)) (.int .i64 ((gputS u0 u1 (bcloneS u2)).2)) rfl rfl ?_; intro a156 hF157; clear hF155
   refine gp hF157 64 0 [] ((beqS (bcloneS u2) u2)) (.int .i64 3) rfl rfl ?_; intro a158 hF159; clear hF157
   refine gp hF159 65 0 [] ((beqS (bcloneS u2) u2)) (.bool (((gputS u0 u1 (bcloneS u2)).2) == 3)) rfl rfl ?_; intro a160 hF161; clear hF159
   refine st hF161 (.bool ((beqS (bcloneS u2) u2) && (((gputS u0 u1 (bcloneS u2)).2) == 3))) (nog rfl _) rfl (by kernel_rfl) (pk_and hF161 (g := []) (m := 0) (b := (beqS (bcloneS u2) u2)) (v := ((gputS u0 u1 (bcloneS u2)).2) == 3) rfl (by kernel_rfl) (by kernel_rfl) (by kernel_rfl) rfl) ?_; intro a162 hF163; clear hF161
   refine s1 hF163 67 (.bool ((beqS (bcloneS u2) u2) && (((gputS u0 u1 (bcloneS u2)).2) == 3))) ?_; intro a164 hF165; clear hF163
   have hF166 := hF165.atom (((beqS (bcloneS u2) u2) && (((gputS u0 u1 (bcloneS u2)).2) == 3)) == true) (by kernel_rfl); clear hF165
   refine gp hF166 68 1 [] ((beqS (bcloneS u2) u2) && (((gputS u0 u1 (bcloneS u2)).2) == 3)) (.slice ao43 ((gputS u0 u1 (bcloneS u2)).1).length cap44) rfl rfl ?_; intro a167 hF168; clear hF166
   refine gp hF168 69 1 [] ((beqS (bcloneS u2) u2) && (((gputS u0 u1 (bcloneS u2)).2) == 3)) (.int .i64 (((gputS u0 u1 (bcloneS u2)).1).length : Int)) rfl rfl ?_; intro a169 hF170; clear hF168
   refine gp hF170 70 1 [] ((beqS (bcloneS u2) u2) && (((gputS u0 u1 (bcloneS u2)).2) == 3)) (.bool ((((gputS u0 u1 (bcloneS u2)).1).length : Int) == 0)) rfl rfl ?_; intro a171 hF172; clear hF170
   refine st hF172 (.bool (((beqS (bcloneS u2) u2) && (((gputS u0 u1 (bcloneS u2)).2) == 3)) && ((((gputS u0 u1 (bcloneS u2)).1).length : Int) == 0))) (nog rfl _) rfl (by kernel_rfl) (pk_and hF172 (g := []) (m := 1) (b := (beqS (bcloneS u2) u2) && (((gputS u0 u1 (bcloneS u2)).2) == 3)) (v := (((gputS u0 u1 (bcloneS u2)).1).length : Int) == 0) rfl (by kernel_rfl) (by kernel_rfl) (by kernel_rfl) rfl) ?_; intro a173 hF174; clear hF172
   refine s1 hF174 6 (.bool (((beqS (bcloneS u2) u2) && (((gputS u0 u1 (bcloneS u2)).2) == 3)) && ((((gputS u0 u1 (bcloneS u2)).1).length : Int) == 0))) ?_; intro a175 hF176; clear hF174
   refine nlH (hQ136 _ _ ?_); clear hQ136 hQ136Q
   refine wp_ret ?_
   refine thr ?_
   refine rt (fn := Tryd.f10) (v := .bool (((beqS (bcloneS u2) u2) && (((gputS u0 u1 (bcloneS u2)).2) == 3)) && ((((gputS u0 u1 (bcloneS u2)).1).length : Int) == 0))) hF176 (re1 hF176 (fn := Tryd.f10) rfl (by kernel_rfl)) ?_
   exact ⟨((beqS (bcloneS u2) u2) && (((gputS u0 u1 (bcloneS u2)).2) == 3)) && ((((gputS u0 u1 (bcloneS u2)).1).length : Int) == 0), rfl, hp134, hM150.below⟩
  ·
   have hp177 := hp98.2 hb133; clear hp98
   refine wp_skip ?_
   refine thn ?_
   have hF178 : Fr 96 [] [⟨0, [], .int .i64 u0⟩, ⟨1, [], .int .i64 u1⟩, ⟨2, [], .slice ao1 u2.length cap2⟩, ⟨8, [], .slice ao43 ((gputS u0 u1 (bcloneS u2)).1).length cap44⟩, ⟨9, [], .int .i64 ((gputS u0 u1 (bcloneS u2)).2)⟩] a131 := hF132.reg; clear hF132
   refine sqH ?_; intro hQ179Q hQ179
   refine s1 hF178 72 (.slice ao1 u2.length cap2) ?_; intro a180 hF181; clear hF178
   have hc182 := hp177.1; have hp183 := hp177.2; clear hp177
   refine cl hF181 43 #[.slice ao1 u2.length cap2] (nog rfl _) rfl (by kernel_rfl) (by kernel_rfl) ?_
   refine (bclone_fun u2 hc182 ao1 cap2 _ _ hs3 hM119.fz).mono ?_; rintro _ wd184 ⟨ao188, cap189, Z190, rfl, hm⟩; refine ⟨_, rfl, ?_⟩; intro a185 hF186; have hM187 := hM119.callZ hm; have hle191 := hm.ext.le; clear hm hM119 hF181
   replace hs3 := hs3.mono hle191
   replace hg5 := hg5.mono hle191
   replace hs35 := hs35.mono hle191
   replace hle0 := Fz.le.trans hle0 hle191
   have hM192 : Mem w.heap.size [] w Z [.own (tyInt .u8) 5 ao188 cap189 (bcloneS u2), .own (tyInt .u8) 5 ao43 cap44 ((gputS u0 u1 (bcloneS u2)).1)] Z190 wd184 := hM187; clear hM187
   have hp193 := hp183 (hM192.ownSmall 0 rfl); clear hp183
   refine s1 hF186 11 (.slice ao188 (bcloneS u2).length cap189) ?_; intro a194 hF195; clear hF186
   refine nlH (hQ179 _ _ ?_); clear hQ179 hQ179Q
   refine sqH ?_; intro hQ196Q hQ196
   refine s1 hF195 74 (.slice ao188 (bcloneS u2).length cap189) ?_; intro a197 hF198; clear hF195
   refine s1 hF198 75 (.slice ao188 (bcloneS u2).length cap189) ?_; intro a199 hF200; clear hF198
   have hc201 := hp193.1; have hp202 := hp193.2; clear hp193
   refine ixo hF200 hM192 0 (T := (tyInt .u8)) (xs := (bcloneS u2)) (1 : Int) hc201 (k := .i64) (e := 5) (bytes := 1) (nog rfl _) rfl (by kernel_rfl) rfl (by kernel_rfl) (by kernel_rfl) rfl (by kernel_rfl) ?_; intro g203 a205 hg204 hF206; clear hF200
   subst hg204
   have hF207 : Fr 96 [] [⟨0, [], .int .i64 u0⟩, ⟨1, [], .int .i64 u1⟩, ⟨2, [], .slice ao1 u2.length cap2⟩, ⟨8, [], .slice ao43 ((gputS u0 u1 (bcloneS u2)).1).length cap44⟩, ⟨9, [], .int .i64 ((gputS u0 u1 (bcloneS u2)).2)⟩, ⟨11, [], .slice (some ⟨g203, 0, none⟩) (bcloneS u2).length cap189⟩, ⟨72, [], .slice ao1 u2.length cap2⟩, ⟨73, [], .slice (some ⟨g203, 0, none⟩) (bcloneS u2).length cap189⟩, ⟨74, [], .slice (some ⟨g203, 0, none⟩) (bcloneS u2).length cap189⟩, ⟨75, [], .slice (some ⟨g203, 0, none⟩) (bcloneS u2).length cap189⟩, ⟨76, [], .pointer (some ⟨g203, (1 : Int).toNat * 1, none⟩)⟩] a205 := hF206.reg; clear hF206
   have hM208 : Mem w.heap.size [] w Z [.own (tyInt .u8) 5 (some ⟨g203, 0, none⟩) cap189 (bcloneS u2), .own (tyInt .u8) 5 ao43 cap44 ((gputS u0 u1 (bcloneS u2)).1)] Z190 wd184 := hM192; clear hM192
   obtain ⟨q209, hq210⟩ : ∃ q, (bcloneS u2)[(1 : Int).toNat]? = some q := ⟨_, List.getElem?_eq_getElem (by first | omega | (simp only [List.length_set] at *; omega))⟩; have hp211 := hp202 q209 hq210; clear hp202
   obtain ⟨cs212, hT213, hcl214⟩ := own_el hM208 0 (T := (tyInt .u8)) (xs := (bcloneS u2)) rfl (1 : Int).toNat hq210
   obtain rfl : cs212 = ([.int .u8 q209] : List Value) := hT213
   refine lc1 hF207 77 (.int .u8 q209) (hcl214 0 _ rfl) rfl ?_; intro a215 hF216; clear hF207
   refine s1 hF216 78 (.int .u8 (w8 (q209.tdiv 16))) ?_; intro a217 hF218; clear hF216
   refine s1 hF218 79 (.int .u8 (w8 ((w8 (q209.tdiv 16)) * 16))) ?_; intro a219 hF220; clear hF218
   refine s1 hF220 80 (.int .i64 u1) ?_; intro a221 hF222; clear hF220
   refine s1 hF222 81 (.int .u8 (w8 u1)) ?_; intro a223 hF224; clear hF222
   refine s1 hF224 82 (.int .u8 (w8 ((w8 ((w8 (q209.tdiv 16)) * 16)) + (w8 u1)))) ?_; intro a225 hF226; clear hF224
   have hc227 := hp211.1; have hp228 := hp211.2; clear hp211
   refine ixo hF226 hM208 0 (T := (tyInt .u8)) (xs := (bcloneS u2)) (1 : Int) hc227 (k := .i64) (e := 5) (bytes := 1) (nog rfl _) rfl (by kernel_rfl) rfl (by kernel_rfl) (by kernel_rfl) rfl (by kernel_rfl) ?_; intro g229 a231 hg230 hF232; clear hF226
   obtain rfl : g203 = g229 := by simpa using hg230
   have hF233 : Fr 96 [] [⟨0, [], .int .i64 u0⟩, ⟨1, [], .int .i64 u1⟩, ⟨2, [], .slice ao1 u2.length cap2⟩, ⟨8, [], .slice ao43 ((gputS u0 u1 (bcloneS u2)).1).length cap44⟩, ⟨9, [], .int .i64 ((gputS u0 u1 (bcloneS u2)).2)⟩, ⟨11, [], .slice (some ⟨g203, 0, none⟩) (bcloneS u2).length cap189⟩, ⟨72, [], .slice ao1 u2.length cap2⟩, ⟨73, [], .slice (some ⟨g203, 0, none⟩) (bcloneS u2).length cap189⟩, ⟨74, [], .slice (some ⟨g203, 0, none⟩) (bcloneS u2).length cap189⟩, ⟨75, [], .slice (some ⟨g203, 0, none⟩) (bcloneS u2).length cap189⟩, ⟨76, [], .pointer (some ⟨g203, (1 : Int).toNat * 1, none⟩)⟩, ⟨77, [], .int .u8 q209⟩, ⟨78, [], .int .u8 (w8 (q209.tdiv 16))⟩, ⟨79, [], .int .u8 (w8 ((w8 (q209.tdiv 16)) * 16))⟩, ⟨80, [], .int .i64 u1⟩, ⟨81, [], .int .u8 (w8 u1)⟩, ⟨82, [], .int .u8 (w8 ((w8 ((w8 (q209.tdiv 16)) * 16)) + (w8 u1)))⟩, ⟨83, [], .pointer (some ⟨g203, (1 : Int).toNat * 1, none⟩)⟩] a231 := hF232.reg; clear hF232
   have hM234 : Mem w.heap.size [] w Z [.own (tyInt .u8) 5 (some ⟨g203, 0, none⟩) cap189 (bcloneS u2), .own (tyInt .u8) 5 ao43 cap44 ((gputS u0 u1 (bcloneS u2)).1)] Z190 wd184 := hM208; clear hM208
   refine so hF233 hM234 0 (T := (tyInt .u8)) (xs := (bcloneS u2)) (1 : Int).toNat (w8 ((w8 ((w8 (q209.tdiv 16)) * 16)) + (w8 u1))) (u := .int .u8 (w8 ((w8 ((w8 (q209.tdiv 16)) * 16)) + (w8 u1)))) (nog rfl _) rfl rfl (by kernel_rfl) rfl (by kernel_rfl) rfl (by kernel_rfl) (by first | omega | (simp only [List.length_set] at *; omega)) rfl ?_; intro wd235 hM236; clear hM234
   have hF237 : Fr 96 [] [⟨0, [], .int .i64 u0⟩, ⟨1, [], .int .i64 u1⟩, ⟨2, [], .slice ao1 u2.length cap2⟩, ⟨8, [], .slice ao43 ((gputS u0 u1 (bcloneS u2)).1).length cap44⟩, ⟨9, [], .int .i64 ((gputS u0 u1 (bcloneS u2)).2)⟩, ⟨11, [], .slice (some ⟨g203, 0, none⟩) ((bcloneS u2).set (1 : Int).toNat (w8 ((w8 ((w8 (q209.tdiv 16)) * 16)) + (w8 u1)))).length cap189⟩, ⟨72, [], .slice ao1 u2.length cap2⟩, ⟨73, [], .slice (some ⟨g203, 0, none⟩) ((bcloneS u2).set (1 : Int).toNat (w8 ((w8 ((w8 (q209.tdiv 16)) * 16)) + (w8 u1)))).length cap189⟩, ⟨74, [], .slice (some ⟨g203, 0, none⟩) ((bcloneS u2).set (1 : Int).toNat (w8 ((w8 ((w8 (q209.tdiv 16)) * 16)) + (w8 u1)))).length cap189⟩, ⟨75, [], .slice (some ⟨g203, 0, none⟩) ((bcloneS u2).set (1 : Int).toNat (w8 ((w8 ((w8 (q209.tdiv 16)) * 16)) + (w8 u1)))).length cap189⟩, ⟨76, [], .pointer (some ⟨g203, (1 : Int).toNat * 1, none⟩)⟩, ⟨77, [], .int .u8 q209⟩, ⟨78, [], .int .u8 (w8 (q209.tdiv 16))⟩, ⟨79, [], .int .u8 (w8 ((w8 (q209.tdiv 16)) * 16))⟩, ⟨80, [], .int .i64 u1⟩, ⟨81, [], .int .u8 (w8 u1)⟩, ⟨82, [], .int .u8 (w8 ((w8 ((w8 (q209.tdiv 16)) * 16)) + (w8 u1)))⟩, ⟨83, [], .pointer (some ⟨g203, (1 : Int).toNat * 1, none⟩)⟩] a231 := by (try simp only [List.length_set] at hF233); (try simp only [List.length_set]); exact hF233.reg
   clear hF233
   have hM238 : Mem w.heap.size [] w Z [.own (tyInt .u8) 5 (some ⟨g203, 0, none⟩) cap189 ((bcloneS u2).set (1 : Int).toNat (w8 ((w8 ((w8 (q209.tdiv 16)) * 16)) + (w8 u1)))), .own (tyInt .u8) 5 ao43 cap44 ((gputS u0 u1 (bcloneS u2)).1)] Z190 wd235 := hM236; clear hM236
   refine nlH (hQ196 _ _ ?_); clear hQ196 hQ196Q
   refine sqH ?_; intro hQ239Q hQ239
   refine s1 hF237 84 (.slice (some ⟨g203, 0, none⟩) ((bcloneS u2).set (1 : Int).toNat (w8 ((w8 ((w8 (q209.tdiv 16)) * 16)) + (w8 u1)))).length cap189) ?_; intro a240 hF241; clear hF237
   refine s1 hF241 85 (.int .i64 u0) ?_; intro a242 hF243; clear hF241
   refine s1 hF243 86 (.slice (some ⟨g203, 0, none⟩) ((bcloneS u2).set (1 : Int).toNat (w8 ((w8 ((w8 (q209.tdiv 16)) * 16)) + (w8 u1)))).length cap189) ?_; intro a244 hF245; clear hF243
   have hc247 := hp228.1; have hp248 := hp228.2; clear hp228
   refine fcl hF245 hM238 (.int .u8 (gsumS u0 ((bcloneS u2).set (1 : Int).toNat (w8 ((w8 ((w8 (q209.tdiv 16)) * 16)) + (w8 u1)))))) 42 #[.int .i64 u0, .slice (some ⟨g203, 0, none⟩) ((bcloneS u2).set (1 : Int).toNat (w8 ((w8 ((w8 (q209.tdiv 16)) * 16)) + (w8 u1)))).length cap189] (nog rfl _) rfl (by kernel_rfl) (fun _ => by kernel_rfl) ((by obtain ⟨Z9, hle9, hon9, hs246⟩ := hM238.lend 0 rfl; exact lgsum_fun u0 ((bcloneS u2).set (1 : Int).toNat (w8 ((w8 ((w8 (q209.tdiv 16)) * 16)) + (w8 u1)))) hc247 (some ⟨g203, 0, none⟩) cap189 _ _ hs246 (SlR.mono hg5 hle9) hon9)) ?_; intro a249 wd251 hF250 hM252; clear hF245 hM238
   have hc253 := hp248.1; have hp254 := hp248.2; clear hp248
   refine ixo hF250 hM252 0 (T := (tyInt .u8)) (xs := (bcloneS u2).set (1 : Int).toNat (w8 ((w8 ((w8 (q209.tdiv 16)) * 16)) + (w8 u1)))) (0 : Int) hc253 (k := .i64) (e := 5) (bytes := 1) (nog rfl _) rfl (by kernel_rfl) rfl (by kernel_rfl) (by kernel_rfl) rfl (by kernel_rfl) ?_; intro g255 a257 hg256 hF258; clear hF250
   obtain rfl : g203 = g255 := by simpa using hg256
   have hF259 : Fr 96 [] [⟨0, [], .int .i64 u0⟩, ⟨1, [], .int .i64 u1⟩, ⟨2, [], .slice ao1 u2.length cap2⟩, ⟨8, [], .slice ao43 ((gputS u0 u1 (bcloneS u2)).1).length cap44⟩, ⟨9, [], .int .i64 ((gputS u0 u1 (bcloneS u2)).2)⟩, ⟨11, [], .slice (some ⟨g203, 0, none⟩) ((bcloneS u2).set (1 : Int).toNat (w8 ((w8 ((w8 (q209.tdiv 16)) * 16)) + (w8 u1)))).length cap189⟩, ⟨72, [], .slice ao1 u2.length cap2⟩, ⟨73, [], .slice (some ⟨g203, 0, none⟩) ((bcloneS u2).set (1 : Int).toNat (w8 ((w8 ((w8 (q209.tdiv 16)) * 16)) + (w8 u1)))).length cap189⟩, ⟨74, [], .slice (some ⟨g203, 0, none⟩) ((bcloneS u2).set (1 : Int).toNat (w8 ((w8 ((w8 (q209.tdiv 16)) * 16)) + (w8 u1)))).length cap189⟩, ⟨75, [], .slice (some ⟨g203, 0, none⟩) ((bcloneS u2).set (1 : Int).toNat (w8 ((w8 ((w8 (q209.tdiv 16)) * 16)) + (w8 u1)))).length cap189⟩, ⟨76, [], .pointer (some ⟨g203, (1 : Int).toNat * 1, none⟩)⟩, ⟨77, [], .int .u8 q209⟩, ⟨78, [], .int .u8 (w8 (q209.tdiv 16))⟩, ⟨79, [], .int .u8 (w8 ((w8 (q209.tdiv 16)) * 16))⟩, ⟨80, [], .int .i64 u1⟩, ⟨81, [], .int .u8 (w8 u1)⟩, ⟨82, [], .int .u8 (w8 ((w8 ((w8 (q209.tdiv 16)) * 16)) + (w8 u1)))⟩, ⟨83, [], .pointer (some ⟨g203, (1 : Int).toNat * 1, none⟩)⟩, ⟨84, [], .slice (some ⟨g203, 0, none⟩) ((bcloneS u2).set (1 : Int).toNat (w8 ((w8 ((w8 (q209.tdiv 16)) * 16)) + (w8 u1)))).length cap189⟩, ⟨85, [], .int .i64 u0⟩, ⟨86, [], .slice (some ⟨g203, 0, none⟩) ((bcloneS u2).set (1 : Int).toNat (w8 ((w8 ((w8 (q209.tdiv 16)) * 16)) + (w8 u1)))).length cap189⟩, ⟨87, [], .int .u8 (gsumS u0 ((bcloneS u2).set (1 : Int).toNat (w8 ((w8 ((w8 (q209.tdiv 16)) * 16)) + (w8 u1)))))⟩, ⟨88, [], .pointer (some ⟨g203, (0 : Int).toNat * 1, none⟩)⟩] a257 := hF258.reg; clear hF258
   have hM260 : Mem w.heap.size [] w Z [.own (tyInt .u8) 5 (some ⟨g203, 0, none⟩) cap189 ((bcloneS u2).set (1 : Int).toNat (w8 ((w8 ((w8 (q209.tdiv 16)) * 16)) + (w8 u1)))), .own (tyInt .u8) 5 ao43 cap44 ((gputS u0 u1 (bcloneS u2)).1)] Z190 wd251 := hM252; clear hM252
   refine so hF259 hM260 0 (T := (tyInt .u8)) (xs := (bcloneS u2).set (1 : Int).toNat (w8 ((w8 ((w8 (q209.tdiv 16)) * 16)) + (w8 u1)))) (0 : Int).toNat (gsumS u0 ((bcloneS u2).set (1 : Int).toNat (w8 ((w8 ((w8 (q209.tdiv 16)) * 16)) + (w8 u1))))) (u := .int .u8 (gsumS u0 ((bcloneS u2).set (1 : Int).toNat (w8 ((w8 ((w8 (q209.tdiv 16)) * 16)) + (w8 u1)))))) (nog rfl _) rfl rfl (by kernel_rfl) rfl (by kernel_rfl) rfl (by kernel_rfl) (by first | omega | (simp only [List.length_set] at *; omega)) rfl ?_; intro wd261 hM262; clear hM260
   have hF263 : Fr 96 [] [⟨0, [], .int .i64 u0⟩, ⟨1, [], .int .i64 u1⟩, ⟨2, [], .slice ao1 u2.length cap2⟩, ⟨8, [], .slice ao43 ((gputS u0 u1 (bcloneS u2)).1).length cap44⟩, ⟨9, [], .int .i64 ((gputS u0 u1 (bcloneS u2)).2)⟩, ⟨11, [], .slice (some ⟨g203, 0, none⟩) (((bcloneS u2).set (1 : Int).toNat (w8 ((w8 ((w8 (q209.tdiv 16)) * 16)) + (w8 u1)))).set (0 : Int).toNat (gsumS u0 ((bcloneS u2).set (1 : Int).toNat (w8 ((w8 ((w8 (q209.tdiv 16)) * 16)) + (w8 u1)))))).length cap189⟩, ⟨72, [], .slice ao1 u2.length cap2⟩, ⟨73, [], .slice (some ⟨g203, 0, none⟩) (((bcloneS u2).set (1 : Int).toNat (w8 ((w8 ((w8 (q209.tdiv 16)) * 16)) + (w8 u1)))).set (0 : Int).toNat (gsumS u0 ((bcloneS u2).set (1 : Int).toNat (w8 ((w8 ((w8 (q209.tdiv 16)) * 16)) + (w8 u1)))))).length cap189⟩, ⟨74, [], .slice (some ⟨g203, 0, none⟩) (((bcloneS u2).set (1 : Int).toNat (w8 ((w8 ((w8 (q209.tdiv 16)) * 16)) + (w8 u1)))).set (0 : Int).toNat (gsumS u0 ((bcloneS u2).set (1 : Int).toNat (w8 ((w8 ((w8 (q209.tdiv 16)) * 16)) + (w8 u1)))))).length cap189⟩, ⟨75, [], .slice (some ⟨g203, 0, none⟩) (((bcloneS u2).set (1 : Int).toNat (w8 ((w8 ((w8 (q209.tdiv 16)) * 16)) + (w8 u1)))).set (0 : Int).toNat (gsumS u0 ((bcloneS u2).set (1 : Int).toNat (w8 ((w8 ((w8 (q209.tdiv 16)) * 16)) + (w8 u1)))))).length cap189⟩, ⟨76, [], .pointer (some ⟨g203, (1 : Int).toNat * 1, none⟩)⟩, ⟨77, [], .int .u8 q209⟩, ⟨78, [], .int .u8 (w8 (q209.tdiv 16))⟩, ⟨79, [], .int .u8 (w8 ((w8 (q209.tdiv 16)) * 16))⟩, ⟨80, [], .int .i64 u1⟩, ⟨81, [], .int .u8 (w8 u1)⟩, ⟨82, [], .int .u8 (w8 ((w8 ((w8 (q209.tdiv 16)) * 16)) + (w8 u1)))⟩, ⟨83, [], .pointer (some ⟨g203, (1 : Int).toNat * 1, none⟩)⟩, ⟨84, [], .slice (some ⟨g203, 0, none⟩) (((bcloneS u2).set (1 : Int).toNat (w8 ((w8 ((w8 (q209.tdiv 16)) * 16)) + (w8 u1)))).set (0 : Int).toNat (gsumS u0 ((bcloneS u2).set (1 : Int).toNat (w8 ((w8 ((w8 (q209.tdiv 16)) * 16)) + (w8 u1)))))).length cap189⟩, ⟨85, [], .int .i64 u0⟩, ⟨86, [], .slice (some ⟨g203, 0, none⟩) (((bcloneS u2).set (1 : Int).toNat (w8 ((w8 ((w8 (q209.tdiv 16)) * 16)) + (w8 u1)))).set (0 : Int).toNat (gsumS u0 ((bcloneS u2).set (1 : Int).toNat (w8 ((w8 ((w8 (q209.tdiv 16)) * 16)) + (w8 u1)))))).length cap189⟩, ⟨87, [], .int .u8 (gsumS u0 ((bcloneS u2).set (1 : Int).toNat (w8 ((w8 ((w8 (q209.tdiv 16)) * 16)) + (w8 u1)))))⟩, ⟨88, [], .pointer (some ⟨g203, (0 : Int).toNat * 1, none⟩)⟩] a257 := by (try simp only [List.length_set] at hF259); (try simp only [List.length_set]); exact hF259.reg
   clear hF259
   have hM264 : Mem w.heap.size [] w Z [.own (tyInt .u8) 5 (some ⟨g203, 0, none⟩) cap189 (((bcloneS u2).set (1 : Int).toNat (w8 ((w8 ((w8 (q209.tdiv 16)) * 16)) + (w8 u1)))).set (0 : Int).toNat (gsumS u0 ((bcloneS u2).set (1 : Int).toNat (w8 ((w8 ((w8 (q209.tdiv 16)) * 16)) + (w8 u1)))))), .own (tyInt .u8) 5 ao43 cap44 ((gputS u0 u1 (bcloneS u2)).1)] Z190 wd261 := hM262; clear hM262
   refine nlH (hQ239 _ _ ?_); clear hQ239 hQ239Q
   have hF265 : Fr 96 [] [⟨8, [], .slice ao43 ((gputS u0 u1 (bcloneS u2)).1).length cap44⟩, ⟨9, [], .int .i64 ((gputS u0 u1 (bcloneS u2)).2)⟩, ⟨11, [], .slice (some ⟨g203, 0, none⟩) (((bcloneS u2).set (1 : Int).toNat (w8 ((w8 ((w8 (q209.tdiv 16)) * 16)) + (w8 u1)))).set (0 : Int).toNat (gsumS u0 ((bcloneS u2).set (1 : Int).toNat (w8 ((w8 ((w8 (q209.tdiv 16)) * 16)) + (w8 u1)))))).length cap189⟩] a257 := hF263.reg; clear hF263
   refine sqH ?_; intro hQ266Q hQ266
   refine s1 hF265 89 (.int .i64 ((gputS u0 u1 (bcloneS u2)).2)) ?_; intro a267 hF268; clear hF265
   refine s1 hF268 90 (.bool (((gputS u0 u1 (bcloneS u2)).2) == 0)) ?_; intro a269 hF270; clear hF268
   refine s1 hF270 91 (.bool (((gputS u0 u1 (bcloneS u2)).2) == 0)) ?_; intro a271 hF272; clear hF270
   have hF273 := hF272.atom ((((gputS u0 u1 (bcloneS u2)).2) == 0) == true) (by kernel_rfl); clear hF272
   refine gp hF273 92 0 [] (((gputS u0 u1 (bcloneS u2)).2) == 0) (.slice ao43 ((gputS u0 u1 (bcloneS u2)).1).length cap44) rfl rfl ?_; intro a274 hF275; clear hF273
   refine gp hF275 93 0 [] (((gputS u0 u1 (bcloneS u2)).2) == 0) (.slice (some ⟨g203, 0, none⟩) (((bcloneS u2).set (1 : Int).toNat (w8 ((w8 ((w8 (q209.tdiv 16)) * 16)) + (w8 u1)))).set (0 : Int).toNat (gsumS u0 ((bcloneS u2).set (1 : Int).toNat (w8 ((w8 ((w8 (q209.tdiv 16)) * 16)) + (w8 u1)))))).length cap189) rfl rfl ?_; intro a276 hF277; clear hF275
   obtain ⟨Z278, hle279, hM280, hs281⟩ := hM264.freeze 1 rfl
   replace hs3 := hs3.mono hle279
   replace hg5 := hg5.mono hle279
   replace hs35 := hs35.mono hle279
   replace hle0 := Fz.le.trans hle0 hle279
   have hM282 : Mem w.heap.size [] w Z [.own (tyInt .u8) 5 (some ⟨g203, 0, none⟩) cap189 (((bcloneS u2).set (1 : Int).toNat (w8 ((w8 ((w8 (q209.tdiv 16)) * 16)) + (w8 u1)))).set (0 : Int).toNat (gsumS u0 ((bcloneS u2).set (1 : Int).toNat (w8 ((w8 ((w8 (q209.tdiv 16)) * 16)) + (w8 u1))))))] Z278 wd261 := hM280; clear hM280
   obtain ⟨Z283, hle284, hM285, hs286⟩ := hM282.freeze 0 rfl
   replace hs3 := hs3.mono hle284
   replace hg5 := hg5.mono hle284
   replace hs35 := hs35.mono hle284
   replace hs281 := hs281.mono hle284
   replace hle0 := Fz.le.trans hle0 hle284
   have hM287 : Mem w.heap.size [] w Z [] Z283 wd261 := hM285; clear hM285
   refine gcl hF277 hM287 (.bool (beqS ((gputS u0 u1 (bcloneS u2)).1) (((bcloneS u2).set (1 : Int).toNat (w8 ((w8 ((w8 (q209.tdiv 16)) * 16)) + (w8 u1)))).set (0 : Int).toNat (gsumS u0 ((bcloneS u2).set (1 : Int).toNat (w8 ((w8 ((w8 (q209.tdiv 16)) * 16)) + (w8 u1)))))))) 45 #[.slice ao43 ((gputS u0 u1 (bcloneS u2)).1).length cap44, .slice (some ⟨g203, 0, none⟩) (((bcloneS u2).set (1 : Int).toNat (w8 ((w8 ((w8 (q209.tdiv 16)) * 16)) + (w8 u1)))).set (0 : Int).toNat (gsumS u0 ((bcloneS u2).set (1 : Int).toNat (w8 ((w8 ((w8 (q209.tdiv 16)) * 16)) + (w8 u1)))))).length cap189] (m := 0) (cj := []) (bj := ((gputS u0 u1 (bcloneS u2)).2) == 0) rfl rfl (by kernel_rfl) rfl (by kernel_rfl) (by kernel_rfl) (by kernel_rfl) (fun _ => by kernel_rfl) (fun hg => beq_fun ((gputS u0 u1 (bcloneS u2)).1) (((bcloneS u2).set (1 : Int).toNat (w8 ((w8 ((w8 (q209.tdiv 16)) * 16)) + (w8 u1)))).set (0 : Int).toNat (gsumS u0 ((bcloneS u2).set (1 : Int).toNat (w8 ((w8 ((w8 (q209.tdiv 16)) * 16)) + (w8 u1)))))) ao43 cap44 (some ⟨g203, 0, none⟩) cap189 _ _ hs281 hs286 hM287.fz) ?_; intro a288 wd290 hF289 hM291; clear hF277 hM287
   refine st hF289 (.bool ((((gputS u0 u1 (bcloneS u2)).2) == 0) && (beqS ((gputS u0 u1 (bcloneS u2)).1) (((bcloneS u2).set (1 : Int).toNat (w8 ((w8 ((w8 (q209.tdiv 16)) * 16)) + (w8 u1)))).set (0 : Int).toNat (gsumS u0 ((bcloneS u2).set (1 : Int).toNat (w8 ((w8 ((w8 (q209.tdiv 16)) * 16)) + (w8 u1))))))))) (nog rfl _) rfl (by kernel_rfl) (pk_and hF289 (g := []) (m := 0) (b := ((gputS u0 u1 (bcloneS u2)).2) == 0) (v := (beqS ((gputS u0 u1 (bcloneS u2)).1) (((bcloneS u2).set (1 : Int).toNat (w8 ((w8 ((w8 (q209.tdiv 16)) * 16)) + (w8 u1)))).set (0 : Int).toNat (gsumS u0 ((bcloneS u2).set (1 : Int).toNat (w8 ((w8 ((w8 (q209.tdiv 16)) * 16)) + (w8 u1)))))))) rfl (by kernel_rfl) (by kernel_rfl) (by kernel_rfl) rfl) ?_; intro a292 hF293; clear hF289
   refine s1 hF293 6 (.bool ((((gputS u0 u1 (bcloneS u2)).2) == 0) && (beqS ((gputS u0 u1 (bcloneS u2)).1) (((bcloneS u2).set (1 : Int).toNat (w8 ((w8 ((w8 (q209.tdiv 16)) * 16)) + (w8 u1)))).set (0 : Int).toNat (gsumS u0 ((bcloneS u2).set (1 : Int).toNat (w8 ((w8 ((w8 (q209.tdiv 16)) * 16)) + (w8 u1))))))))) ?_; intro a294 hF295; clear hF293
   refine nlH (hQ266 _ _ ?_); clear hQ266 hQ266Q
   refine wp_ret ?_
   refine rt (fn := Tryd.f10) (v := .bool ((((gputS u0 u1 (bcloneS u2)).2) == 0) && (beqS ((gputS u0 u1 (bcloneS u2)).1) (((bcloneS u2).set (1 : Int).toNat (w8 ((w8 ((w8 (q209.tdiv 16)) * 16)) + (w8 u1)))).set (0 : Int).toNat (gsumS u0 ((bcloneS u2).set (1 : Int).toNat (w8 ((w8 ((w8 (q209.tdiv 16)) * 16)) + (w8 u1))))))))) hF295 (re1 hF295 (fn := Tryd.f10) rfl (by kernel_rfl)) ?_
   exact ⟨(((gputS u0 u1 (bcloneS u2)).2) == 0) && (beqS ((gputS u0 u1 (bcloneS u2)).1) (((bcloneS u2).set (1 : Int).toNat (w8 ((w8 ((w8 (q209.tdiv 16)) * 16)) + (w8 u1)))).set (0 : Int).toNat (gsumS u0 ((bcloneS u2).set (1 : Int).toNat (w8 ((w8 ((w8 (q209.tdiv 16)) * 16)) + (w8 u1))))))), rfl, hp254, hM291.below⟩
 ·
  have hp296 := hp48.2 hb97; clear hp48
  have hF297 : Fr 96 [] [⟨0, [], .int .i64 u0⟩, ⟨1, [], .int .i64 u1⟩, ⟨2, [], .slice ao1 u2.length cap2⟩, ⟨7, [], .slice ao17 (bcloneS u2).length cap18⟩, ⟨8, [], .slice ao43 ((gputS u0 u1 (bcloneS u2)).1).length cap44⟩, ⟨9, [], .int .i64 ((gputS u0 u1 (bcloneS u2)).2)⟩, ⟨10, [], .int .i64 0⟩] a95 := hF96.reg; clear hF96
  refine sqH ?_; intro hQ298Q hQ298
  refine s1 hF297 37 (.slice ao1 u2.length cap2) ?_; intro a299 hF300; clear hF297
  refine s1 hF300 38 (.int .i64 (u2.length : Int)) ?_; intro a301 hF302; clear hF300
  refine s1 hF302 39 (.bool (decide ((u2.length : Int) < 2))) ?_; intro a303 hF304; clear hF302
  refine s1 hF304 36 (.bool (decide ((u2.length : Int) < 2))) ?_; intro a305 hF306; clear hF304
  refine nlH (hQ298 _ _ ?_); clear hQ298 hQ298Q
  refine cd hF306 (t := decide ((u2.length : Int) < 2)) (by kernel_rfl) (fun hb307 => ?_) (fun hb307 => ?_)
  ·
   have hp308 := hp296.1 hb307; clear hp296
   refine rgH ?_; intro hQ309Q hQ309
   refine s1 hF306 10 (.int .i64 7) ?_; intro a310 hF311; clear hF306
   refine nlH (hQ309 _ _ ?_); clear hQ309 hQ309Q
   refine ibn ?_
   refine thn ?_
   refine wp_seq ?_
   refine sqH ?_; intro hQ312Q hQ312
   refine fcl hF311 hM47 (.bool true) 40 #[] (nog rfl _) rfl (by kernel_rfl) (fun _ => by kernel_rfl) (guarded_fun  _ _ hM47.fz) ?_; intro a313 wd315 hF314 hM316; clear hF311 hM47
   refine s1 hF314 45 (.bool false) ?_; intro a317 hF318; clear hF314
   refine s1 hF318 46 (.bool false) ?_; intro a319 hF320; clear hF318
   refine st hF320 (.slice ao17 (bcloneS u2).length cap18) (by rw [wanted_of hF320 (b := false) rfl rfl (by kernel_rfl) (by kernel_rfl)]; rfl) rfl (by kernel_rfl) (p0 hF320 (by kernel_rfl)) ?_; intro a321 hF322; clear hF320
   refine st hF322 (.slice ao1 u2.length cap2) (by rw [wanted_of hF322 (b := false) rfl rfl (by kernel_rfl) (by kernel_rfl)]; rfl) rfl (by kernel_rfl) (p0 hF322 (by kernel_rfl)) ?_; intro a323 hF324; clear hF322
   refine fcl hF324 hM316 (.bool (beqS (bcloneS u2) u2)) 45 #[.slice ao17 (bcloneS u2).length cap18, .slice ao1 u2.length cap2] (by rw [wanted_of hF324 (b := false) rfl rfl (by kernel_rfl) (by kernel_rfl)]; rfl) rfl (by kernel_rfl) (fun _ => by kernel_rfl) (beq_fun (bcloneS u2) u2 ao17 cap18 ao1 cap2 _ _ hs35 hs3 hM316.fz) ?_; intro a325 wd327 hF326 hM328; clear hF324 hM316
   refine st hF326 (.bool (!(beqS (bcloneS u2) u2))) (by rw [wanted_of hF326 (b := false) rfl rfl (by kernel_rfl) (by kernel_rfl)]; rfl) rfl (by kernel_rfl) (p0 hF326 (by kernel_rfl)) ?_; intro a329 hF330; clear hF326
   refine s1 hF330 51 (.bool (!(beqS (bcloneS u2) u2))) ?_; intro a331 hF332; clear hF330
   refine s1 hF332 52 (.bool (!(beqS (bcloneS u2) u2))) ?_; intro a333 hF334; clear hF332
   have hF335 := hF334.atom ((!(beqS (bcloneS u2) u2)) == false) (by kernel_rfl); clear hF334
   refine gp hF335 53 0 [] (!(beqS (bcloneS u2) u2)) (.int .i64 7) rfl rfl ?_; intro a336 hF337; clear hF335
   refine gp hF337 54 0 [] (!(beqS (bcloneS u2) u2)) (.bool true) rfl rfl ?_; intro a338 hF339; clear hF337
   refine st hF339 (.bool ((!(beqS (bcloneS u2) u2)) || true)) (nog rfl _) rfl (by kernel_rfl) (pk_or hF339 (g := []) (m := 0) (b := !(beqS (bcloneS u2) u2)) (v := true) rfl (by kernel_rfl) (by kernel_rfl) (by kernel_rfl) rfl) ?_; intro a340 hF341; clear hF339
   refine nlH (hQ312 _ _ ?_); clear hQ312 hQ312Q
   refine cd hF341 (t := (!(beqS (bcloneS u2) u2)) || true) (by kernel_rfl) (fun hb342 => ?_) (fun hb342 => ?_)
   ·
    have hp343 := hp308.1 hb342; clear hp308
    have hF344 : Fr 96 [] [⟨2, [], .slice ao1 u2.length cap2⟩, ⟨7, [], .slice ao17 (bcloneS u2).length cap18⟩, ⟨8, [], .slice ao43 ((gputS u0 u1 (bcloneS u2)).1).length cap44⟩, ⟨9, [], .int .i64 ((gputS u0 u1 (bcloneS u2)).2)⟩, ⟨10, [], .int .i64 7⟩] a340 := hF341.reg; clear hF341
    refine sqH ?_; intro hQ345Q hQ345
    refine fcl hF344 hM328 (.bool true) 40 #[] (nog rfl _) rfl (by kernel_rfl) (fun _ => by kernel_rfl) (guarded_fun  _ _ hM328.fz) ?_; intro a346 wd348 hF347 hM349; clear hF344 hM328
    refine s1 hF347 57 (.bool true) ?_; intro a350 hF351; clear hF347
    refine st hF351 (.slice ao17 (bcloneS u2).length cap18) (by rw [wanted_of hF351 (b := true) rfl rfl (by kernel_rfl) (by kernel_rfl)]; rfl) rfl (by kernel_rfl) (p0 hF351 (by kernel_rfl)) ?_; intro a352 hF353; clear hF351
    refine st hF353 (.slice ao1 u2.length cap2) (by rw [wanted_of hF353 (b := true) rfl rfl (by kernel_rfl) (by kernel_rfl)]; rfl) rfl (by kernel_rfl) (p0 hF353 (by kernel_rfl)) ?_; intro a354 hF355; clear hF353
    refine fcl hF355 hM349 (.bool (beqS (bcloneS u2) u2)) 45 #[.slice ao17 (bcloneS u2).length cap18, .slice ao1 u2.length cap2] (by rw [wanted_of hF355 (b := true) rfl rfl (by kernel_rfl) (by kernel_rfl)]; rfl) rfl (by kernel_rfl) (fun _ => by kernel_rfl) (beq_fun (bcloneS u2) u2 ao17 cap18 ao1 cap2 _ _ hs35 hs3 hM349.fz) ?_; intro a356 wd358 hF357 hM359; clear hF355 hM349
    refine s1 hF357 61 (.bool (beqS (bcloneS u2) u2)) ?_; intro a360 hF361; clear hF357
    refine s1 hF361 62 (.bool (beqS (bcloneS u2) u2)) ?_; intro a362 hF363; clear hF361
    have hF364 := hF363.atom ((beqS (bcloneS u2) u2) == true) (by kernel_rfl); clear hF363
    refine gp hF364 63 0 [] ((beqS (bcloneS u2) u2)) (.int .i64 ((gputS u0 u1 (bcloneS u2)).2)) rfl rfl ?_; intro a365 hF366; clear hF364
    refine gp hF366 64 0 [] ((beqS (bcloneS u2) u2)) (.int .i64 7) rfl rfl ?_; intro a367 hF368; clear hF366
    refine gp hF368 65 0 [] ((beqS (bcloneS u2) u2)) (.bool (((gputS u0 u1 (bcloneS u2)).2) == 7)) rfl rfl ?_; intro a369 hF370; clear hF368
    refine st hF370 (.bool ((beqS (bcloneS u2) u2) && (((gputS u0 u1 (bcloneS u2)).2) == 7))) (nog rfl _) rfl (by kernel_rfl) (pk_and hF370 (g := []) (m := 0) (b := (beqS (bcloneS u2) u2)) (v := ((gputS u0 u1 (bcloneS u2)).2) == 7) rfl (by kernel_rfl) (by kernel_rfl) (by kernel_rfl) rfl) ?_; intro a371 hF372; clear hF370
    refine s1 hF372 67 (.bool ((beqS (bcloneS u2) u2) && (((gputS u0 u1 (bcloneS u2)).2) == 7))) ?_; intro a373 hF374; clear hF372
    have hF375 := hF374.atom (((beqS (bcloneS u2) u2) && (((gputS u0 u1 (bcloneS u2)).2) == 7)) == true) (by kernel_rfl); clear hF374
    refine gp hF375 68 1 [] ((beqS (bcloneS u2) u2) && (((gputS u0 u1 (bcloneS u2)).2) == 7)) (.slice ao43 ((gputS u0 u1 (bcloneS u2)).1).length cap44) rfl rfl ?_; intro a376 hF377; clear hF375
    refine gp hF377 69 1 [] ((beqS (bcloneS u2) u2) && (((gputS u0 u1 (bcloneS u2)).2) == 7)) (.int .i64 (((gputS u0 u1 (bcloneS u2)).1).length : Int)) rfl rfl ?_; intro a378 hF379; clear hF377
    refine gp hF379 70 1 [] ((beqS (bcloneS u2) u2) && (((gputS u0 u1 (bcloneS u2)).2) == 7)) (.bool ((((gputS u0 u1 (bcloneS u2)).1).length : Int) == 0)) rfl rfl ?_; intro a380 hF381; clear hF379
    refine st hF381 (.bool (((beqS (bcloneS u2) u2) && (((gputS u0 u1 (bcloneS u2)).2) == 7)) && ((((gputS u0 u1 (bcloneS u2)).1).length : Int) == 0))) (nog rfl _) rfl (by kernel_rfl) (pk_and hF381 (g := []) (m := 1) (b := (beqS (bcloneS u2) u2) && (((gputS u0 u1 (bcloneS u2)).2) == 7)) (v := (((gputS u0 u1 (bcloneS u2)).1).length : Int) == 0) rfl (by kernel_rfl) (by kernel_rfl) (by kernel_rfl) rfl) ?_; intro a382 hF383; clear hF381
    refine s1 hF383 6 (.bool (((beqS (bcloneS u2) u2) && (((gputS u0 u1 (bcloneS u2)).2) == 7)) && ((((gputS u0 u1 (bcloneS u2)).1).length : Int) == 0))) ?_; intro a384 hF385; clear hF383
    refine nlH (hQ345 _ _ ?_); clear hQ345 hQ345Q
    refine wp_ret ?_
    refine thr ?_
    refine rt (fn := Tryd.f10) (v := .bool (((beqS (bcloneS u2) u2) && (((gputS u0 u1 (bcloneS u2)).2) == 7)) && ((((gputS u0 u1 (bcloneS u2)).1).length : Int) == 0))) hF385 (re1 hF385 (fn := Tryd.f10) rfl (by kernel_rfl)) ?_
    exact ⟨((beqS (bcloneS u2) u2) && (((gputS u0 u1 (bcloneS u2)).2) == 7)) && ((((gputS u0 u1 (bcloneS u2)).1).length : Int) == 0), rfl, hp343, hM359.below⟩
   ·
    have hp386 := hp308.2 hb342; clear hp308
    refine wp_skip ?_
    refine thn ?_
    have hF387 : Fr 96 [] [⟨0, [], .int .i64 u0⟩, ⟨1, [], .int .i64 u1⟩, ⟨2, [], .slice ao1 u2.length cap2⟩, ⟨8, [], .slice ao43 ((gputS u0 u1 (bcloneS u2)).1).length cap44⟩, ⟨9, [], .int .i64 ((gputS u0 u1 (bcloneS u2)).2)⟩] a340 := hF341.reg; clear hF341
    refine sqH ?_; intro hQ388Q hQ388
    refine s1 hF387 72 (.slice ao1 u2.length cap2) ?_; intro a389 hF390; clear hF387
    have hc391 := hp386.1; have hp392 := hp386.2; clear hp386
    refine cl hF390 43 #[.slice ao1 u2.length cap2] (nog rfl _) rfl (by kernel_rfl) (by kernel_rfl) ?_
    refine (bclone_fun u2 hc391 ao1 cap2 _ _ hs3 hM328.fz).mono ?_; rintro _ wd393 ⟨ao397, cap398, Z399, rfl, hm⟩; refine ⟨_, rfl, ?_⟩; intro a394 hF395; have hM396 := hM328.callZ hm; have hle400 := hm.ext.le; clear hm hM328 hF390
    replace hs3 := hs3.mono hle400
    replace hg5 := hg5.mono hle400
    replace hs35 := hs35.mono hle400
    replace hle0 := Fz.le.trans hle0 hle400
    have hM401 : Mem w.heap.size [] w Z [.own (tyInt .u8) 5 ao397 cap398 (bcloneS u2), .own (tyInt .u8) 5 ao43 cap44 ((gputS u0 u1 (bcloneS u2)).1)] Z399 wd393 := hM396; clear hM396
    have hp402 := hp392 (hM401.ownSmall 0 rfl); clear hp392
    refine s1 hF395 11 (.slice ao397 (bcloneS u2).length cap398) ?_; intro a403 hF404; clear hF395
    refine nlH (hQ388 _ _ ?_); clear hQ388 hQ388Q
    refine sqH ?_; intro hQ405Q hQ405
    refine s1 hF404 74 (.slice ao397 (bcloneS u2).length cap398) ?_; intro a406 hF407; clear hF404
    refine s1 hF407 75 (.slice ao397 (bcloneS u2).length cap398) ?_; intro a408 hF409; clear hF407
    have hc410 := hp402.1; have hp411 := hp402.2; clear hp402
    refine ixo hF409 hM401 0 (T := (tyInt .u8)) (xs := (bcloneS u2)) (1 : Int) hc410 (k := .i64) (e := 5) (bytes := 1) (nog rfl _) rfl (by kernel_rfl) rfl (by kernel_rfl) (by kernel_rfl) rfl (by kernel_rfl) ?_; intro g412 a414 hg413 hF415; clear hF409
    subst hg413
    have hF416 : Fr 96 [] [⟨0, [], .int .i64 u0⟩, ⟨1, [], .int .i64 u1⟩, ⟨2, [], .slice ao1 u2.length cap2⟩, ⟨8, [], .slice ao43 ((gputS u0 u1 (bcloneS u2)).1).length cap44⟩, ⟨9, [], .int .i64 ((gputS u0 u1 (bcloneS u2)).2)⟩, ⟨11, [], .slice (some ⟨g412, 0, none⟩) (bcloneS u2).length cap398⟩, ⟨72, [], .slice ao1 u2.length cap2⟩, ⟨73, [], .slice (some ⟨g412, 0, none⟩) (bcloneS u2).length cap398⟩, ⟨74, [], .slice (some ⟨g412, 0, none⟩) (bcloneS u2).length cap398⟩, ⟨75, [], .slice (some ⟨g412, 0, none⟩) (bcloneS u2).length cap398⟩, ⟨76, [], .pointer (some ⟨g412, (1 : Int).toNat * 1, none⟩)⟩] a414 := hF415.reg; clear hF415
    have hM417 : Mem w.heap.size [] w Z [.own (tyInt .u8) 5 (some ⟨g412, 0, none⟩) cap398 (bcloneS u2), .own (tyInt .u8) 5 ao43 cap44 ((gputS u0 u1 (bcloneS u2)).1)] Z399 wd393 := hM401; clear hM401
    obtain ⟨q418, hq419⟩ : ∃ q, (bcloneS u2)[(1 : Int).toNat]? = some q := ⟨_, List.getElem?_eq_getElem (by first | omega | (simp only [List.length_set] at *; omega))⟩; have hp420 := hp411 q418 hq419; clear hp411
    obtain ⟨cs421, hT422, hcl423⟩ := own_el hM417 0 (T := (tyInt .u8)) (xs := (bcloneS u2)) rfl (1 : Int).toNat hq419
    obtain rfl : cs421 = ([.int .u8 q418] : List Value) := hT422
    refine lc1 hF416 77 (.int .u8 q418) (hcl423 0 _ rfl) rfl ?_; intro a424 hF425; clear hF416
    refine s1 hF425 78 (.int .u8 (w8 (q418.tdiv 16))) ?_; intro a426 hF427; clear hF425
    refine s1 hF427 79 (.int .u8 (w8 ((w8 (q418.tdiv 16)) * 16))) ?_; intro a428 hF429; clear hF427
    refine s1 hF429 80 (.int .i64 u1) ?_; intro a430 hF431; clear hF429
    refine s1 hF431 81 (.int .u8 (w8 u1)) ?_; intro a432 hF433; clear hF431
    refine s1 hF433 82 (.int .u8 (w8 ((w8 ((w8 (q418.tdiv 16)) * 16)) + (w8 u1)))) ?_; intro a434 hF435; clear hF433
    have hc436 := hp420.1; have hp437 := hp420.2; clear hp420
    refine ixo hF435 hM417 0 (T := (tyInt .u8)) (xs := (bcloneS u2)) (1 : Int) hc436 (k := .i64) (e := 5) (bytes := 1) (nog rfl _) rfl (by kernel_rfl) rfl (by kernel_rfl) (by kernel_rfl) rfl (by kernel_rfl) ?_; intro g438 a440 hg439 hF441; clear hF435
    obtain rfl : g412 = g438 := by simpa using hg439
    have hF442 : Fr 96 [] [⟨0, [], .int .i64 u0⟩, ⟨1, [], .int .i64 u1⟩, ⟨2, [], .slice ao1 u2.length cap2⟩, ⟨8, [], .slice ao43 ((gputS u0 u1 (bcloneS u2)).1).length cap44⟩, ⟨9, [], .int .i64 ((gputS u0 u1 (bcloneS u2)).2)⟩, ⟨11, [], .slice (some ⟨g412, 0, none⟩) (bcloneS u2).length cap398⟩, ⟨72, [], .slice ao1 u2.length cap2⟩, ⟨73, [], .slice (some ⟨g412, 0, none⟩) (bcloneS u2).length cap398⟩, ⟨74, [], .slice (some ⟨g412, 0, none⟩) (bcloneS u2).length cap398⟩, ⟨75, [], .slice (some ⟨g412, 0, none⟩) (bcloneS u2).length cap398⟩, ⟨76, [], .pointer (some ⟨g412, (1 : Int).toNat * 1, none⟩)⟩, ⟨77, [], .int .u8 q418⟩, ⟨78, [], .int .u8 (w8 (q418.tdiv 16))⟩, ⟨79, [], .int .u8 (w8 ((w8 (q418.tdiv 16)) * 16))⟩, ⟨80, [], .int .i64 u1⟩, ⟨81, [], .int .u8 (w8 u1)⟩, ⟨82, [], .int .u8 (w8 ((w8 ((w8 (q418.tdiv 16)) * 16)) + (w8 u1)))⟩, ⟨83, [], .pointer (some ⟨g412, (1 : Int).toNat * 1, none⟩)⟩] a440 := hF441.reg; clear hF441
    have hM443 : Mem w.heap.size [] w Z [.own (tyInt .u8) 5 (some ⟨g412, 0, none⟩) cap398 (bcloneS u2), .own (tyInt .u8) 5 ao43 cap44 ((gputS u0 u1 (bcloneS u2)).1)] Z399 wd393 := hM417; clear hM417
    refine so hF442 hM443 0 (T := (tyInt .u8)) (xs := (bcloneS u2)) (1 : Int).toNat (w8 ((w8 ((w8 (q418.tdiv 16)) * 16)) + (w8 u1))) (u := .int .u8 (w8 ((w8 ((w8 (q418.tdiv 16)) * 16)) + (w8 u1)))) (nog rfl _) rfl rfl (by kernel_rfl) rfl (by kernel_rfl) rfl (by kernel_rfl) (by first | omega | (simp only [List.length_set] at *; omega)) rfl ?_; intro wd444 hM445; clear hM443
    have hF446 : Fr 96 [] [⟨0, [], .int .i64 u0⟩, ⟨1, [], .int .i64 u1⟩, ⟨2, [], .slice ao1 u2.length cap2⟩, ⟨8, [], .slice ao43 ((gputS u0 u1 (bcloneS u2)).1).length cap44⟩, ⟨9, [], .int .i64 ((gputS u0 u1 (bcloneS u2)).2)⟩, ⟨11, [], .slice (some ⟨g412, 0, none⟩) ((bcloneS u2).set (1 : Int).toNat (w8 ((w8 ((w8 (q418.tdiv 16)) * 16)) + (w8 u1)))).length cap398⟩, ⟨72, [], .slice ao1 u2.length cap2⟩, ⟨73, [], .slice (some ⟨g412, 0, none⟩) ((bcloneS u2).set (1 : Int).toNat (w8 ((w8 ((w8 (q418.tdiv 16)) * 16)) + (w8 u1)))).length cap398⟩, ⟨74, [], .slice (some ⟨g412, 0, none⟩) ((bcloneS u2).set (1 : Int).toNat (w8 ((w8 ((w8 (q418.tdiv 16)) * 16)) + (w8 u1)))).length cap398⟩, ⟨75, [], .slice (some ⟨g412, 0, none⟩) ((bcloneS u2).set (1 : Int).toNat (w8 ((w8 ((w8 (q418.tdiv 16)) * 16)) + (w8 u1)))).length cap398⟩, ⟨76, [], .pointer (some ⟨g412, (1 : Int).toNat * 1, none⟩)⟩, ⟨77, [], .int .u8 q418⟩, ⟨78, [], .int .u8 (w8 (q418.tdiv 16))⟩, ⟨79, [], .int .u8 (w8 ((w8 (q418.tdiv 16)) * 16))⟩, ⟨80, [], .int .i64 u1⟩, ⟨81, [], .int .u8 (w8 u1)⟩, ⟨82, [], .int .u8 (w8 ((w8 ((w8 (q418.tdiv 16)) * 16)) + (w8 u1)))⟩, ⟨83, [], .pointer (some ⟨g412, (1 : Int).toNat * 1, none⟩)⟩] a440 := by (try simp only [List.length_set] at hF442); (try simp only [List.length_set]); exact hF442.reg
    clear hF442
    have hM447 : Mem w.heap.size [] w Z [.own (tyInt .u8) 5 (some ⟨g412, 0, none⟩) cap398 ((bcloneS u2).set (1 : Int).toNat (w8 ((w8 ((w8 (q418.tdiv 16)) * 16)) + (w8 u1)))), .own (tyInt .u8) 5 ao43 cap44 ((gputS u0 u1 (bcloneS u2)).1)] Z399 wd444 := hM445; clear hM445
    refine nlH (hQ405 _ _ ?_); clear hQ405 hQ405Q
    refine sqH ?_; intro hQ448Q hQ448
    refine s1 hF446 84 (.slice (some ⟨g412, 0, none⟩) ((bcloneS u2).set (1 : Int).toNat (w8 ((w8 ((w8 (q418.tdiv 16)) * 16)) + (w8 u1)))).length cap398) ?_; intro a449 hF450; clear hF446
    refine s1 hF450 85 (.int .i64 u0) ?_; intro a451 hF452; clear hF450
    refine s1 hF452 86 (.slice (some ⟨g412, 0, none⟩) ((bcloneS u2).set (1 : Int).toNat (w8 ((w8 ((w8 (q418.tdiv 16)) * 16)) + (w8 u1)))).length cap398) ?_; intro a453 hF454; clear hF452
    have hc456 := hp437.1; have hp457 := hp437.2; clear hp437
    refine fcl hF454 hM447 (.int .u8 (gsumS u0 ((bcloneS u2).set (1 : Int).toNat (w8 ((w8 ((w8 (q418.tdiv 16)) * 16)) + (w8 u1)))))) 42 #[.int .i64 u0, .slice (some ⟨g412, 0, none⟩) ((bcloneS u2).set (1 : Int).toNat (w8 ((w8 ((w8 (q418.tdiv 16)) * 16)) + (w8 u1)))).length cap398] (nog rfl _) rfl (by kernel_rfl) (fun _ => by kernel_rfl) ((by obtain ⟨Z9, hle9, hon9, hs455⟩ := hM447.lend 0 rfl; exact lgsum_fun u0 ((bcloneS u2).set (1 : Int).toNat (w8 ((w8 ((w8 (q418.tdiv 16)) * 16)) + (w8 u1)))) hc456 (some ⟨g412, 0, none⟩) cap398 _ _ hs455 (SlR.mono hg5 hle9) hon9)) ?_; intro a458 wd460 hF459 hM461; clear hF454 hM447
    have hc462 := hp457.1; have hp463 := hp457.2; clear hp457
    refine ixo hF459 hM461 0 (T := (tyInt .u8)) (xs := (bcloneS u2).set (1 : Int).toNat (w8 ((w8 ((w8 (q418.tdiv 16)) * 16)) + (w8 u1)))) (0 : Int) hc462 (k := .i64) (e := 5) (bytes := 1) (nog rfl _) rfl (by kernel_rfl) rfl (by kernel_rfl) (by kernel_rfl) rfl (by kernel_rfl) ?_; intro g464 a466 hg465 hF467; clear hF459
    obtain rfl : g412 = g464 := by simpa using hg465
    have hF468 : Fr 96 [] [⟨0, [], .int .i64 u0⟩, ⟨1, [], .int .i64 u1⟩, ⟨2, [], .slice ao1 u2.length cap2⟩, ⟨8, [], .slice ao43 ((gputS u0 u1 (bcloneS u2)).1).length cap44⟩, ⟨9, [], .int .i64 ((gputS u0 u1 (bcloneS u2)).2)⟩, ⟨11, [], .slice (some ⟨g412, 0, none⟩) ((bcloneS u2).set (1 : Int).toNat (w8 ((w8 ((w8 (q418.tdiv 16)) * 16)) + (w8 u1)))).length cap398⟩, ⟨72, [], .slice ao1 u2.length cap2⟩, ⟨73, [], .slice (some ⟨g412, 0, none⟩) ((bcloneS u2).set (1 : Int).toNat (w8 ((w8 ((w8 (q418.tdiv 16)) * 16)) + (w8 u1)))).length cap398⟩, ⟨74, [], .slice (some ⟨g412, 0, none⟩) ((bcloneS u2).set (1 : Int).toNat (w8 ((w8 ((w8 (q418.tdiv 16)) * 16)) + (w8 u1)))).length cap398⟩, ⟨75, [], .slice (some ⟨g412, 0, none⟩) ((bcloneS u2).set (1 : Int).toNat (w8 ((w8 ((w8 (q418.tdiv 16)) * 16)) + (w8 u1)))).length cap398⟩, ⟨76, [], .pointer (some ⟨g412, (1 : Int).toNat * 1, none⟩)⟩, ⟨77, [], .int .u8 q418⟩, ⟨78, [], .int .u8 (w8 (q418.tdiv 16))⟩, ⟨79, [], .int .u8 (w8 ((w8 (q418.tdiv 16)) * 16))⟩, ⟨80, [], .int .i64 u1⟩, ⟨81, [], .int .u8 (w8 u1)⟩, ⟨82, [], .int .u8 (w8 ((w8 ((w8 (q418.tdiv 16)) * 16)) + (w8 u1)))⟩, ⟨83, [], .pointer (some ⟨g412, (1 : Int).toNat * 1, none⟩)⟩, ⟨84, [], .slice (some ⟨g412, 0, none⟩) ((bcloneS u2).set (1 : Int).toNat (w8 ((w8 ((w8 (q418.tdiv 16)) * 16)) + (w8 u1)))).length cap398⟩, ⟨85, [], .int .i64 u0⟩, ⟨86, [], .slice (some ⟨g412, 0, none⟩) ((bcloneS u2).set (1 : Int).toNat (w8 ((w8 ((w8 (q418.tdiv 16)) * 16)) + (w8 u1)))).length cap398⟩, ⟨87, [], .int .u8 (gsumS u0 ((bcloneS u2).set (1 : Int).toNat (w8 ((w8 ((w8 (q418.tdiv 16)) * 16)) + (w8 u1)))))⟩, ⟨88, [], .pointer (some ⟨g412, (0 : Int).toNat * 1, none⟩)⟩] a466 := hF467.reg; clear hF467
    have hM469 : Mem w.heap.size [] w Z [.own (tyInt .u8) 5 (some ⟨g412, 0, none⟩) cap398 ((bcloneS u2).set (1 : Int).toNat (w8 ((w8 ((w8 (q418.tdiv 16)) * 16)) + (w8 u1)))), .own (tyInt .u8) 5 ao43 cap44 ((gputS u0 u1 (bcloneS u2)).1)] Z399 wd460 := hM461; clear hM461
    refine so hF468 hM469 0 (T := (tyInt .u8)) (xs := (bcloneS u2).set (1 : Int).toNat (w8 ((w8 ((w8 (q418.tdiv 16)) * 16)) + (w8 u1)))) (0 : Int).toNat (gsumS u0 ((bcloneS u2).set (1 : Int).toNat (w8 ((w8 ((w8 (q418.tdiv 16)) * 16)) + (w8 u1))))) (u := .int .u8 (gsumS u0 ((bcloneS u2).set (1 : Int).toNat (w8 ((w8 ((w8 (q418.tdiv 16)) * 16)) + (w8 u1)))))) (nog rfl _) rfl rfl (by kernel_rfl) rfl (by kernel_rfl) rfl (by kernel_rfl) (by first | omega | (simp only [List.length_set] at *; omega)) rfl ?_; intro wd470 hM471; clear hM469
    have hF472 : Fr 96 [] [⟨0, [], .int .i64 u0⟩, ⟨1, [], .int .i64 u1⟩, ⟨2, [], .slice ao1 u2.length cap2⟩, ⟨8, [], .slice ao43 ((gputS u0 u1 (bcloneS u2)).1).length cap44⟩, ⟨9, [], .int .i64 ((gputS u0 u1 (bcloneS u2)).2)⟩, ⟨11, [], .slice (some ⟨g412, 0, none⟩) (((bcloneS u2).set (1 : Int).toNat (w8 ((w8 ((w8 (q418.tdiv 16)) * 16)) + (w8 u1)))).set (0 : Int).toNat (gsumS u0 ((bcloneS u2).set (1 : Int).toNat (w8 ((w8 ((w8 (q418.tdiv 16)) * 16)) + (w8 u1)))))).length cap398⟩, ⟨72, [], .slice ao1 u2.length cap2⟩, ⟨73, [], .slice (some ⟨g412, 0, none⟩) (((bcloneS u2).set (1 : Int).toNat (w8 ((w8 ((w8 (q418.tdiv 16)) * 16)) + (w8 u1)))).set (0 : Int).toNat (gsumS u0 ((bcloneS u2).set (1 : Int).toNat (w8 ((w8 ((w8 (q418.tdiv 16)) * 16)) + (w8 u1)))))).length cap398⟩, ⟨74, [], .slice (some ⟨g412, 0, none⟩) (((bcloneS u2).set (1 : Int).toNat (w8 ((w8 ((w8 (q418.tdiv 16)) * 16)) + (w8 u1)))).set (0 : Int).toNat (gsumS u0 ((bcloneS u2).set (1 : Int).toNat (w8 ((w8 ((w8 (q418.tdiv 16)) * 16)) + (w8 u1)))))).length cap398⟩, ⟨75, [], .slice (some ⟨g412, 0, none⟩) (((bcloneS u2).set (1 : Int).toNat (w8 ((w8 ((w8 (q418.tdiv 16)) * 16)) + (w8 u1)))).set (0 : Int).toNat (gsumS u0 ((bcloneS u2).set (1 : Int).toNat (w8 ((w8 ((w8 (q418.tdiv 16)) * 16)) + (w8 u1)))))).length cap398⟩, ⟨76, [], .pointer (some ⟨g412, (1 : Int).toNat * 1, none⟩)⟩, ⟨77, [], .int .u8 q418⟩, ⟨78, [], .int .u8 (w8 (q418.tdiv 16))⟩, ⟨79, [], .int .u8 (w8 ((w8 (q418.tdiv 16)) * 16))⟩, ⟨80, [], .int .i64 u1⟩, ⟨81, [], .int .u8 (w8 u1)⟩, ⟨82, [], .int .u8 (w8 ((w8 ((w8 (q418.tdiv 16)) * 16)) + (w8 u1)))⟩, ⟨83, [], .pointer (some ⟨g412, (1 : Int).toNat * 1, none⟩)⟩, ⟨84, [], .slice (some ⟨g412, 0, none⟩) (((bcloneS u2).set (1 : Int).toNat (w8 ((w8 ((w8 (q418.tdiv 16)) * 16)) + (w8 u1)))).set (0 : Int).toNat (gsumS u0 ((bcloneS u2).set (1 : Int).toNat (w8 ((w8 ((w8 (q418.tdiv 16)) * 16)) + (w8 u1)))))).length cap398⟩, ⟨85, [], .int .i64 u0⟩, ⟨86, [], .slice (some ⟨g412, 0, none⟩) (((bcloneS u2).set (1 : Int).toNat (w8 ((w8 ((w8 (q418.tdiv 16)) * 16)) + (w8 u1)))).set (0 : Int).toNat (gsumS u0 ((bcloneS u2).set (1 : Int).toNat (w8 ((w8 ((w8 (q418.tdiv 16)) * 16)) + (w8 u1)))))).length cap398⟩, ⟨87, [], .int .u8 (gsumS u0 ((bcloneS u2).set (1 : Int).toNat (w8 ((w8 ((w8 (q418.tdiv 16)) * 16)) + (w8 u1)))))⟩, ⟨88, [], .pointer (some ⟨g412, (0 : Int).toNat * 1, none⟩)⟩] a466 := by (try simp only [List.length_set] at hF468); (try simp only [List.length_set]); exact hF468.reg
    clear hF468
    have hM473 : Mem w.heap.size [] w Z [.own (tyInt .u8) 5 (some ⟨g412, 0, none⟩) cap398 (((bcloneS u2).set (1 : Int).toNat (w8 ((w8 ((w8 (q418.tdiv 16)) * 16)) + (w8 u1)))).set (0 : Int).toNat (gsumS u0 ((bcloneS u2).set (1 : Int).toNat (w8 ((w8 ((w8 (q418.tdiv 16)) * 16)) + (w8 u1)))))), .own (tyInt .u8) 5 ao43 cap44 ((gputS u0 u1 (bcloneS u2)).1)] Z399 wd470 := hM471; clear hM471
    refine nlH (hQ448 _ _ ?_); clear hQ448 hQ448Q
    have hF474 : Fr 96 [] [⟨8, [], .slice ao43 ((gputS u0 u1 (bcloneS u2)).1).length cap44⟩, ⟨9, [], .int .i64 ((gputS u0 u1 (bcloneS u2)).2)⟩, ⟨11, [], .slice (some ⟨g412, 0, none⟩) (((bcloneS u2).set (1 : Int).toNat (w8 ((w8 ((w8 (q418.tdiv 16)) * 16)) + (w8 u1)))).set (0 : Int).toNat (gsumS u0 ((bcloneS u2).set (1 : Int).toNat (w8 ((w8 ((w8 (q418.tdiv 16)) * 16)) + (w8 u1)))))).length cap398⟩] a466 := hF472.reg; clear hF472
    refine sqH ?_; intro hQ475Q hQ475
    refine s1 hF474 89 (.int .i64 ((gputS u0 u1 (bcloneS u2)).2)) ?_; intro a476 hF477; clear hF474
    refine s1 hF477 90 (.bool (((gputS u0 u1 (bcloneS u2)).2) == 0)) ?_; intro a478 hF479; clear hF477
    refine s1 hF479 91 (.bool (((gputS u0 u1 (bcloneS u2)).2) == 0)) ?_; intro a480 hF481; clear hF479
    have hF482 := hF481.atom ((((gputS u0 u1 (bcloneS u2)).2) == 0) == true) (by kernel_rfl); clear hF481
    refine gp hF482 92 0 [] (((gputS u0 u1 (bcloneS u2)).2) == 0) (.slice ao43 ((gputS u0 u1 (bcloneS u2)).1).length cap44) rfl rfl ?_; intro a483 hF484; clear hF482
    refine gp hF484 93 0 [] (((gputS u0 u1 (bcloneS u2)).2) == 0) (.slice (some ⟨g412, 0, none⟩) (((bcloneS u2).set (1 : Int).toNat (w8 ((w8 ((w8 (q418.tdiv 16)) * 16)) + (w8 u1)))).set (0 : Int).toNat (gsumS u0 ((bcloneS u2).set (1 : Int).toNat (w8 ((w8 ((w8 (q418.tdiv 16)) * 16)) + (w8 u1)))))).length cap398) rfl rfl ?_; intro a485 hF486; clear hF484
    obtain ⟨Z487, hle488, hM489, hs490⟩ := hM473.freeze 1 rfl
    replace hs3 := hs3.mono hle488
    replace hg5 := hg5.mono hle488
    replace hs35 := hs35.mono hle488
    replace hle0 := Fz.le.trans hle0 hle488
    have hM491 : Mem w.heap.size [] w Z [.own (tyInt .u8) 5 (some ⟨g412, 0, none⟩) cap398 (((bcloneS u2).set (1 : Int).toNat (w8 ((w8 ((w8 (q418.tdiv 16)) * 16)) + (w8 u1)))).set (0 : Int).toNat (gsumS u0 ((bcloneS u2).set (1 : Int).toNat (w8 ((w8 ((w8 (q418.tdiv 16)) * 16)) + (w8 u1))))))] Z487 wd470 := hM489; clear hM489
    obtain ⟨Z492, hle493, hM494, hs495⟩ := hM491.freeze 0 rfl
    replace hs3 := hs3.mono hle493
    replace hg5 := hg5.mono hle493
    replace hs35 := hs35.mono hle493
    replace hs490 := hs490.mono hle493
    replace hle0 := Fz.le.trans hle0 hle493
    have hM496 : Mem w.heap.size [] w Z [] Z492 wd470 := hM494; clear hM494
    refine gcl hF486 hM496 (.bool (beqS ((gputS u0 u1 (bcloneS u2)).1) (((bcloneS u2).set (1 : Int).toNat (w8 ((w8 ((w8 (q418.tdiv 16)) * 16)) + (w8 u1)))).set (0 : Int).toNat (gsumS u0 ((bcloneS u2).set (1 : Int).toNat (w8 ((w8 ((w8 (q418.tdiv 16)) * 16)) + (w8 u1)))))))) 45 #[.slice ao43 ((gputS u0 u1 (bcloneS u2)).1).length cap44, .slice (some ⟨g412, 0, none⟩) (((bcloneS u2).set (1 : Int).toNat (w8 ((w8 ((w8 (q418.tdiv 16)) * 16)) + (w8 u1)))).set (0 : Int).toNat (gsumS u0 ((bcloneS u2).set (1 : Int).toNat (w8 ((w8 ((w8 (q418.tdiv 16)) * 16)) + (w8 u1)))))).length cap398] (m := 0) (cj := []) (bj := ((gputS u0 u1 (bcloneS u2)).2) == 0) rfl rfl (by kernel_rfl) rfl (by kernel_rfl) (by kernel_rfl) (by kernel_rfl) (fun _ => by kernel_rfl) (fun hg => beq_fun ((gputS u0 u1 (bcloneS u2)).1) (((bcloneS u2).set (1 : Int).toNat (w8 ((w8 ((w8 (q418.tdiv 16)) * 16)) + (w8 u1)))).set (0 : Int).toNat (gsumS u0 ((bcloneS u2).set (1 : Int).toNat (w8 ((w8 ((w8 (q418.tdiv 16)) * 16)) + (w8 u1)))))) ao43 cap44 (some ⟨g412, 0, none⟩) cap398 _ _ hs490 hs495 hM496.fz) ?_; intro a497 wd499 hF498 hM500; clear hF486 hM496
    refine st hF498 (.bool ((((gputS u0 u1 (bcloneS u2)).2) == 0) && (beqS ((gputS u0 u1 (bcloneS u2)).1) (((bcloneS u2).set (1 : Int).toNat (w8 ((w8 ((w8 (q418.tdiv 16)) * 16)) + (w8 u1)))).set (0 : Int).toNat (gsumS u0 ((bcloneS u2).set (1 : Int).toNat (w8 ((w8 ((w8 (q418.tdiv 16)) * 16)) + (w8 u1))))))))) (nog rfl _) rfl (by kernel_rfl) (pk_and hF498 (g := []) (m := 0) (b := ((gputS u0 u1 (bcloneS u2)).2) == 0) (v := (beqS ((gputS u0 u1 (bcloneS u2)).1) (((bcloneS u2).set (1 : Int).toNat (w8 ((w8 ((w8 (q418.tdiv 16)) * 16)) + (w8 u1)))).set (0 : Int).toNat (gsumS u0 ((bcloneS u2).set (1 : Int).toNat (w8 ((w8 ((w8 (q418.tdiv 16)) * 16)) + (w8 u1)))))))) rfl (by kernel_rfl) (by kernel_rfl) (by kernel_rfl) rfl) ?_; intro a501 hF502; clear hF498
    refine s1 hF502 6 (.bool ((((gputS u0 u1 (bcloneS u2)).2) == 0) && (beqS ((gputS u0 u1 (bcloneS u2)).1) (((bcloneS u2).set (1 : Int).toNat (w8 ((w8 ((w8 (q418.tdiv 16)) * 16)) + (w8 u1)))).set (0 : Int).toNat (gsumS u0 ((bcloneS u2).set (1 : Int).toNat (w8 ((w8 ((w8 (q418.tdiv 16)) * 16)) + (w8 u1))))))))) ?_; intro a503 hF504; clear hF502
    refine nlH (hQ475 _ _ ?_); clear hQ475 hQ475Q
    refine wp_ret ?_
    refine rt (fn := Tryd.f10) (v := .bool ((((gputS u0 u1 (bcloneS u2)).2) == 0) && (beqS ((gputS u0 u1 (bcloneS u2)).1) (((bcloneS u2).set (1 : Int).toNat (w8 ((w8 ((w8 (q418.tdiv 16)) * 16)) + (w8 u1)))).set (0 : Int).toNat (gsumS u0 ((bcloneS u2).set (1 : Int).toNat (w8 ((w8 ((w8 (q418.tdiv 16)) * 16)) + (w8 u1))))))))) hF504 (re1 hF504 (fn := Tryd.f10) rfl (by kernel_rfl)) ?_
    exact ⟨(((gputS u0 u1 (bcloneS u2)).2) == 0) && (beqS ((gputS u0 u1 (bcloneS u2)).1) (((bcloneS u2).set (1 : Int).toNat (w8 ((w8 ((w8 (q418.tdiv 16)) * 16)) + (w8 u1)))).set (0 : Int).toNat (gsumS u0 ((bcloneS u2).set (1 : Int).toNat (w8 ((w8 ((w8 (q418.tdiv 16)) * 16)) + (w8 u1))))))), rfl, hp463, hM500.below⟩
  ·
   have hp505 := hp296.2 hb307; clear hp296
   refine sqH ?_; intro hQ506Q hQ506
   refine s1 hF306 41 (.slice ao1 u2.length cap2) ?_; intro a507 hF508; clear hF306
   refine s1 hF508 42 (.int .i64 (u2.length : Int)) ?_; intro a509 hF510; clear hF508
   refine s1 hF510 43 (.bool (decide ((u2.length : Int) > 64))) ?_; intro a511 hF512; clear hF510
   refine s1 hF512 40 (.bool (decide ((u2.length : Int) > 64))) ?_; intro a513 hF514; clear hF512
   refine nlH (hQ506 _ _ ?_); clear hQ506 hQ506Q
   refine cd hF514 (t := decide ((u2.length : Int) > 64)) (by kernel_rfl) (fun hb515 => ?_) (fun hb515 => ?_)
   ·
    have hp516 := hp505.1 hb515; clear hp505
    refine rgH ?_; intro hQ517Q hQ517
    refine s1 hF514 10 (.int .i64 2) ?_; intro a518 hF519; clear hF514
    refine nlH (hQ517 _ _ ?_); clear hQ517 hQ517Q
    refine ibn ?_
    refine thn ?_
    refine wp_seq ?_
    refine sqH ?_; intro hQ520Q hQ520
    refine fcl hF519 hM47 (.bool true) 40 #[] (nog rfl _) rfl (by kernel_rfl) (fun _ => by kernel_rfl) (guarded_fun  _ _ hM47.fz) ?_; intro a521 wd523 hF522 hM524; clear hF519 hM47
    refine s1 hF522 45 (.bool false) ?_; intro a525 hF526; clear hF522
    refine s1 hF526 46 (.bool false) ?_; intro a527 hF528; clear hF526
    refine st hF528 (.slice ao17 (bcloneS u2).length cap18) (by rw [wanted_of hF528 (b := false) rfl rfl (by kernel_rfl) (by kernel_rfl)]; rfl) rfl (by kernel_rfl) (p0 hF528 (by kernel_rfl)) ?_; intro a529 hF530; clear hF528
    refine st hF530 (.slice ao1 u2.length cap2) (by rw [wanted_of hF530 (b := false) rfl rfl (by kernel_rfl) (by kernel_rfl)]; rfl) rfl (by kernel_rfl) (p0 hF530 (by kernel_rfl)) ?_; intro a531 hF532; clear hF530
    refine fcl hF532 hM524 (.bool (beqS (bcloneS u2) u2)) 45 #[.slice ao17 (bcloneS u2).length cap18, .slice ao1 u2.length cap2] (by rw [wanted_of hF532 (b := false) rfl rfl (by kernel_rfl) (by kernel_rfl)]; rfl) rfl (by kernel_rfl) (fun _ => by kernel_rfl) (beq_fun (bcloneS u2) u2 ao17 cap18 ao1 cap2 _ _ hs35 hs3 hM524.fz) ?_; intro a533 wd535 hF534 hM536; clear hF532 hM524
    refine st hF534 (.bool (!(beqS (bcloneS u2) u2))) (by rw [wanted_of hF534 (b := false) rfl rfl (by kernel_rfl) (by kernel_rfl)]; rfl) rfl (by kernel_rfl) (p0 hF534 (by kernel_rfl)) ?_; intro a537 hF538; clear hF534
    refine s1 hF538 51 (.bool (!(beqS (bcloneS u2) u2))) ?_; intro a539 hF540; clear hF538
    refine s1 hF540 52 (.bool (!(beqS (bcloneS u2) u2))) ?_; intro a541 hF542; clear hF540
    have hF543 := hF542.atom ((!(beqS (bcloneS u2) u2)) == false) (by kernel_rfl); clear hF542
    refine gp hF543 53 0 [] (!(beqS (bcloneS u2) u2)) (.int .i64 2) rfl rfl ?_; intro a544 hF545; clear hF543
    refine gp hF545 54 0 [] (!(beqS (bcloneS u2) u2)) (.bool true) rfl rfl ?_; intro a546 hF547; clear hF545
    refine st hF547 (.bool ((!(beqS (bcloneS u2) u2)) || true)) (nog rfl _) rfl (by kernel_rfl) (pk_or hF547 (g := []) (m := 0) (b := !(beqS (bcloneS u2) u2)) (v := true) rfl (by kernel_rfl) (by kernel_rfl) (by kernel_rfl) rfl) ?_; intro a548 hF549; clear hF547
    refine nlH (hQ520 _ _ ?_); clear hQ520 hQ520Q
    refine cd hF549 (t := (!(beqS (bcloneS u2) u2)) || true) (by kernel_rfl) (fun hb550 => ?_) (fun hb550 => ?_)
    ·
     have hp551 := hp516.1 hb550; clear hp516
     have hF552 : Fr 96 [] [⟨2, [], .slice ao1 u2.length cap2⟩, ⟨7, [], .slice ao17 (bcloneS u2).length cap18⟩, ⟨8, [], .slice ao43 ((gputS u0 u1 (bcloneS u2)).1).length cap44⟩, ⟨9, [], .int .i64 ((gputS u0 u1 (bcloneS u2)).2)⟩, ⟨10, [], .int .i64 2⟩] a548 := hF549.reg; clear hF549
     refine sqH ?_; intro hQ553Q hQ553
     refine fcl hF552 hM536 (.bool true) 40 #[] (nog rfl _) rfl (by kernel_rfl) (fun _ => by kernel_rfl) (guarded_fun  _ _ hM536.fz) ?_; intro a554 wd556 hF555 hM557; clear hF552 hM536
     refine s1 hF555 57 (.bool true) ?_; intro a558 hF559; clear hF555
     refine st hF559 (.slice ao17 (bcloneS u2).length cap18) (by rw [wanted_of hF559 (b := true) rfl rfl (by kernel_rfl) (by kernel_rfl)]; rfl) rfl (by kernel_rfl) (p0 hF559 (by kernel_rfl)) ?_; intro a560 hF561; clear hF559
     refine st hF561 (.slice ao1 u2.length cap2) (by rw [wanted_of hF561 (b := true) rfl rfl (by kernel_rfl) (by kernel_rfl)]; rfl) rfl (by kernel_rfl) (p0 hF561 (by kernel_rfl)) ?_; intro a562 hF563; clear hF561
     refine fcl hF563 hM557 (.bool (beqS (bcloneS u2) u2)) 45 #[.slice ao17 (bcloneS u2).length cap18, .slice ao1 u2.length cap2] (by rw [wanted_of hF563 (b := true) rfl rfl (by kernel_rfl) (by kernel_rfl)]; rfl) rfl (by kernel_rfl) (fun _ => by kernel_rfl) (beq_fun (bcloneS u2) u2 ao17 cap18 ao1 cap2 _ _ hs35 hs3 hM557.fz) ?_; intro a564 wd566 hF565 hM567; clear hF563 hM557
     refine s1 hF565 61 (.bool (beqS (bcloneS u2) u2)) ?_; intro a568 hF569; clear hF565
     refine s1 hF569 62 (.bool (beqS (bcloneS u2) u2)) ?_; intro a570 hF571; clear hF569
     have hF572 := hF571.atom ((beqS (bcloneS u2) u2) == true) (by kernel_rfl); clear hF571
     refine gp hF572 63 0 [] ((beqS (bcloneS u2) u2)) (.int .i64 ((gputS u0 u1 (bcloneS u2)).2)) rfl rfl ?_; intro a573 hF574; clear hF572
     refine gp hF574 64 0 [] ((beqS (bcloneS u2) u2)) (.int .i64 2) rfl rfl ?_; intro a575 hF576; clear hF574
     refine gp hF576 65 0 [] ((beqS (bcloneS u2) u2)) (.bool (((gputS u0 u1 (bcloneS u2)).2) == 2)) rfl rfl ?_; intro a577 hF578; clear hF576
     refine st hF578 (.bool ((beqS (bcloneS u2) u2) && (((gputS u0 u1 (bcloneS u2)).2) == 2))) (nog rfl _) rfl (by kernel_rfl) (pk_and hF578 (g := []) (m := 0) (b := (beqS (bcloneS u2) u2)) (v := ((gputS u0 u1 (bcloneS u2)).2) == 2) rfl (by kernel_rfl) (by kernel_rfl) (by kernel_rfl) rfl) ?_; intro a579 hF580; clear hF578
     refine s1 hF580 67 (.bool ((beqS (bcloneS u2) u2) && (((gputS u0 u1 (bcloneS u2)).2) == 2))) ?_; intro a581 hF582; clear hF580
     have hF583 := hF582.atom (((beqS (bcloneS u2) u2) && (((gputS u0 u1 (bcloneS u2)).2) == 2)) == true) (by kernel_rfl); clear hF582
     refine gp hF583 68 1 [] ((beqS (bcloneS u2) u2) && (((gputS u0 u1 (bcloneS u2)).2) == 2)) (.slice ao43 ((gputS u0 u1 (bcloneS u2)).1).length cap44) rfl rfl ?_; intro a584 hF585; clear hF583
     refine gp hF585 69 1 [] ((beqS (bcloneS u2) u2) && (((gputS u0 u1 (bcloneS u2)).2) == 2)) (.int .i64 (((gputS u0 u1 (bcloneS u2)).1).length : Int)) rfl rfl ?_; intro a586 hF587; clear hF585
     refine gp hF587 70 1 [] ((beqS (bcloneS u2) u2) && (((gputS u0 u1 (bcloneS u2)).2) == 2)) (.bool ((((gputS u0 u1 (bcloneS u2)).1).length : Int) == 0)) rfl rfl ?_; intro a588 hF589; clear hF587
     refine st hF589 (.bool (((beqS (bcloneS u2) u2) && (((gputS u0 u1 (bcloneS u2)).2) == 2)) && ((((gputS u0 u1 (bcloneS u2)).1).length : Int) == 0))) (nog rfl _) rfl (by kernel_rfl) (pk_and hF589 (g := []) (m := 1) (b := (beqS (bcloneS u2) u2) && (((gputS u0 u1 (bcloneS u2)).2) == 2)) (v := (((gputS u0 u1 (bcloneS u2)).1).length : Int) == 0) rfl (by kernel_rfl) (by kernel_rfl) (by kernel_rfl) rfl) ?_; intro a590 hF591; clear hF589
     refine s1 hF591 6 (.bool (((beqS (bcloneS u2) u2) && (((gputS u0 u1 (bcloneS u2)).2) == 2)) && ((((gputS u0 u1 (bcloneS u2)).1).length : Int) == 0))) ?_; intro a592 hF593; clear hF591
     refine nlH (hQ553 _ _ ?_); clear hQ553 hQ553Q
     refine wp_ret ?_
     refine thr ?_
     refine rt (fn := Tryd.f10) (v := .bool (((beqS (bcloneS u2) u2) && (((gputS u0 u1 (bcloneS u2)).2) == 2)) && ((((gputS u0 u1 (bcloneS u2)).1).length : Int) == 0))) hF593 (re1 hF593 (fn := Tryd.f10) rfl (by kernel_rfl)) ?_
     exact ⟨((beqS (bcloneS u2) u2) && (((gputS u0 u1 (bcloneS u2)).2) == 2)) && ((((gputS u0 u1 (bcloneS u2)).1).length : Int) == 0), rfl, hp551, hM567.below⟩
    ·
     have hp594 := hp516.2 hb550; clear hp516
     refine wp_skip ?_
     refine thn ?_
     have hF595 : Fr 96 [] [⟨0, [], .int .i64 u0⟩, ⟨1, [], .int .i64 u1⟩, ⟨2, [], .slice ao1 u2.length cap2⟩, ⟨8, [], .slice ao43 ((gputS u0 u1 (bcloneS u2)).1).length cap44⟩, ⟨9, [], .int .i64 ((gputS u0 u1 (bcloneS u2)).2)⟩] a548 := hF549.reg; clear hF549
     refine sqH ?_; intro hQ596Q hQ596
     refine s1 hF595 72 (.slice ao1 u2.length cap2) ?_; intro a597 hF598; clear hF595
     have hc599 := hp594.1; have hp600 := hp594.2; clear hp594
     refine cl hF598 43 #[.slice ao1 u2.length cap2] (nog rfl _) rfl (by kernel_rfl) (by kernel_rfl) ?_
     refine (bclone_fun u2 hc599 ao1 cap2 _ _ hs3 hM536.fz).mono ?_; rintro _ wd601 ⟨ao605, cap606, Z607, rfl, hm⟩; refine ⟨_, rfl, ?_⟩; intro a602 hF603; have hM604 := hM536.callZ hm; have hle608 := hm.ext.le; clear hm hM536 hF598
     replace hs3 := hs3.mono hle608
     replace hg5 := hg5.mono hle608
     replace hs35 := hs35.mono hle608
     replace hle0 := Fz.le.trans hle0 hle608
     have hM609 : Mem w.heap.size [] w Z [.own (tyInt .u8) 5 ao605 cap606 (bcloneS u2), .own (tyInt .u8) 5 ao43 cap44 ((gputS u0 u1 (bcloneS u2)).1)] Z607 wd601 := hM604; clear hM604
     have hp610 := hp600 (hM609.ownSmall 0 rfl); clear hp600
     refine s1 hF603 11 (.slice ao605 (bcloneS u2).length cap606) ?_; intro a611 hF612; clear hF603
     refine nlH (hQ596 _ _ ?_); clear hQ596 hQ596Q
     refine sqH ?_; intro hQ613Q hQ613
     refine s1 hF612 74 (.slice ao605 (bcloneS u2).length cap606) ?_; intro a614 hF615; clear hF612
     refine s1 hF615 75 (.slice ao605 (bcloneS u2).length cap606) ?_; intro a616 hF617; clear hF615
     have hc618 := hp610.1; have hp619 := hp610.2; clear hp610
     refine ixo hF617 hM609 0 (T := (tyInt .u8)) (xs := (bcloneS u2)) (1 : Int) hc618 (k := .i64) (e := 5) (bytes := 1) (nog rfl _) rfl (by kernel_rfl) rfl (by kernel_rfl) (by kernel_rfl) rfl (by kernel_rfl) ?_; intro g620 a622 hg621 hF623; clear hF617
     subst hg621
     have hF624 : Fr 96 [] [⟨0, [], .int .i64 u0⟩, ⟨1, [], .int .i64 u1⟩, ⟨2, [], .slice ao1 u2.length cap2⟩, ⟨8, [], .slice ao43 ((gputS u0 u1 (bcloneS u2)).1).length cap44⟩, ⟨9, [], .int .i64 ((gputS u0 u1 (bcloneS u2)).2)⟩, ⟨11, [], .slice (some ⟨g620, 0, none⟩) (bcloneS u2).length cap606⟩, ⟨72, [], .slice ao1 u2.length cap2⟩, ⟨73, [], .slice (some ⟨g620, 0, none⟩) (bcloneS u2).length cap606⟩, ⟨74, [], .slice (some ⟨g620, 0, none⟩) (bcloneS u2).length cap606⟩, ⟨75, [], .slice (some ⟨g620, 0, none⟩) (bcloneS u2).length cap606⟩, ⟨76, [], .pointer (some ⟨g620, (1 : Int).toNat * 1, none⟩)⟩] a622 := hF623.reg; clear hF623
     have hM625 : Mem w.heap.size [] w Z [.own (tyInt .u8) 5 (some ⟨g620, 0, none⟩) cap606 (bcloneS u2), .own (tyInt .u8) 5 ao43 cap44 ((gputS u0 u1 (bcloneS u2)).1)] Z607 wd601 := hM609; clear hM609
     obtain ⟨q626, hq627⟩ : ∃ q, (bcloneS u2)[(1 : Int).toNat]? = some q := ⟨_, List.getElem?_eq_getElem (by first | omega | (simp only [List.length_set] at *; omega))⟩; have hp628 := hp619 q626 hq627; clear hp619
     obtain ⟨cs629, hT630, hcl631⟩ := own_el hM625 0 (T := (tyInt .u8)) (xs := (bcloneS u2)) rfl (1 : Int).toNat hq627
     obtain rfl : cs629 = ([.int .u8 q626] : List Value) := hT630
     refine lc1 hF624 77 (.int .u8 q626) (hcl631 0 _ rfl) rfl ?_; intro a632 hF633; clear hF624
     refine s1 hF633 78 (.int .u8 (w8 (q626.tdiv 16))) ?_; intro a634 hF635; clear hF633
     refine s1 hF635 79 (.int .u8 (w8 ((w8 (q626.tdiv 16)) * 16))) ?_; intro a636 hF637; clear hF635
     refine s1 hF637 80 (.int .i64 u1) ?_; intro a638 hF639; clear hF637
     refine s1 hF639 81 (.int .u8 (w8 u1)) ?_; intro a640 hF641; clear hF639
     refine s1 hF641 82 (.int .u8 (w8 ((w8 ((w8 (q626.tdiv 16)) * 16)) + (w8 u1)))) ?_; intro a642 hF643; clear hF641
     have hc644 := hp628.1; have hp645 := hp628.2; clear hp628
     refine ixo hF643 hM625 0 (T := (tyInt .u8)) (xs := (bcloneS u2)) (1 : Int) hc644 (k := .i64) (e := 5) (bytes := 1) (nog rfl _) rfl (by kernel_rfl) rfl (by kernel_rfl) (by kernel_rfl) rfl (by kernel_rfl) ?_; intro g646 a648 hg647 hF649; clear hF643
     obtain rfl : g620 = g646 := by simpa using hg647
     have hF650 : Fr 96 [] [⟨0, [], .int .i64 u0⟩, ⟨1, [], .int .i64 u1⟩, ⟨2, [], .slice ao1 u2.length cap2⟩, ⟨8, [], .slice ao43 ((gputS u0 u1 (bcloneS u2)).1).length cap44⟩, ⟨9, [], .int .i64 ((gputS u0 u1 (bcloneS u2)).2)⟩, ⟨11, [], .slice (some ⟨g620, 0, none⟩) (bcloneS u2).length cap606⟩, ⟨72, [], .slice ao1 u2.length cap2⟩, ⟨73, [], .slice (some ⟨g620, 0, none⟩) (bcloneS u2).length cap606⟩, ⟨74, [], .slice (some ⟨g620, 0, none⟩) (bcloneS u2).length cap606⟩, ⟨75, [], .slice (some ⟨g620, 0, none⟩) (bcloneS u2).length cap606⟩, ⟨76, [], .pointer (some ⟨g620, (1 : Int).toNat * 1, none⟩)⟩, ⟨77, [], .int .u8 q626⟩, ⟨78, [], .int .u8 (w8 (q626.tdiv 16))⟩, ⟨79, [], .int .u8 (w8 ((w8 (q626.tdiv 16)) * 16))⟩, ⟨80, [], .int .i64 u1⟩, ⟨81, [], .int .u8 (w8 u1)⟩, ⟨82, [], .int .u8 (w8 ((w8 ((w8 (q626.tdiv 16)) * 16)) + (w8 u1)))⟩, ⟨83, [], .pointer (some ⟨g620, (1 : Int).toNat * 1, none⟩)⟩] a648 := hF649.reg; clear hF649
     have hM651 : Mem w.heap.size [] w Z [.own (tyInt .u8) 5 (some ⟨g620, 0, none⟩) cap606 (bcloneS u2), .own (tyInt .u8) 5 ao43 cap44 ((gputS u0 u1 (bcloneS u2)).1)] Z607 wd601 := hM625; clear hM625
     refine so hF650 hM651 0 (T := (tyInt .u8)) (xs := (bcloneS u2)) (1 : Int).toNat (w8 ((w8 ((w8 (q626.tdiv 16)) * 16)) + (w8 u1))) (u := .int .u8 (w8 ((w8 ((w8 (q626.tdiv 16)) * 16)) + (w8 u1)))) (nog rfl _) rfl rfl (by kernel_rfl) rfl (by kernel_rfl) rfl (by kernel_rfl) (by first | omega | (simp only [List.length_set] at *; omega)) rfl ?_; intro wd652 hM653; clear hM651
     have hF654 : Fr 96 [] [⟨0, [], .int .i64 u0⟩, ⟨1, [], .int .i64 u1⟩, ⟨2, [], .slice ao1 u2.length cap2⟩, ⟨8, [], .slice ao43 ((gputS u0 u1 (bcloneS u2)).1).length cap44⟩, ⟨9, [], .int .i64 ((gputS u0 u1 (bcloneS u2)).2)⟩, ⟨11, [], .slice (some ⟨g620, 0, none⟩) ((bcloneS u2).set (1 : Int).toNat (w8 ((w8 ((w8 (q626.tdiv 16)) * 16)) + (w8 u1)))).length cap606⟩, ⟨72, [], .slice ao1 u2.length cap2⟩, ⟨73, [], .slice (some ⟨g620, 0, none⟩) ((bcloneS u2).set (1 : Int).toNat (w8 ((w8 ((w8 (q626.tdiv 16)) * 16)) + (w8 u1)))).length cap606⟩, ⟨74, [], .slice (some ⟨g620, 0, none⟩) ((bcloneS u2).set (1 : Int).toNat (w8 ((w8 ((w8 (q626.tdiv 16)) * 16)) + (w8 u1)))).length cap606⟩, ⟨75, [], .slice (some ⟨g620, 0, none⟩) ((bcloneS u2).set (1 : Int).toNat (w8 ((w8 ((w8 (q626.tdiv 16)) * 16)) + (w8 u1)))).length cap606⟩, ⟨76, [], .pointer (some ⟨g620, (1 : Int).toNat * 1, none⟩)⟩, ⟨77, [], .int .u8 q626⟩, ⟨78, [], .int .u8 (w8 (q626.tdiv 16))⟩, ⟨79, [], .int .u8 (w8 ((w8 (q626.tdiv 16)) * 16))⟩, ⟨80, [], .int .i64 u1⟩, ⟨81, [], .int .u8 (w8 u1)⟩, ⟨82, [], .int .u8 (w8 ((w8 ((w8 (q626.tdiv 16)) * 16)) + (w8 u1)))⟩, ⟨83, [], .pointer (some ⟨g620, (1 : Int).toNat * 1, none⟩)⟩] a648 := by (try simp only [List.length_set] at hF650); (try simp only [List.length_set]); exact hF650.reg
     clear hF650
     have hM655 : Mem w.heap.size [] w Z [.own (tyInt .u8) 5 (some ⟨g620, 0, none⟩) cap606 ((bcloneS u2).set (1 : Int).toNat (w8 ((w8 ((w8 (q626.tdiv 16)) * 16)) + (w8 u1)))), .own (tyInt .u8) 5 ao43 cap44 ((gputS u0 u1 (bcloneS u2)).1)] Z607 wd652 := hM653; clear hM653
     refine nlH (hQ613 _ _ ?_); clear hQ613 hQ613Q
     refine sqH ?_; intro hQ656Q hQ656
     refine s1 hF654 84 (.slice (some ⟨g620, 0, none⟩) ((bcloneS u2).set (1 : Int).toNat (w8 ((w8 ((w8 (q626.tdiv 16)) * 16)) + (w8 u1)))).length cap606) ?_; intro a657 hF658; clear hF654
     refine s1 hF658 85 (.int .i64 u0) ?_; intro a659 hF660; clear hF658
     refine s1 hF660 86 (.slice (some ⟨g620, 0, none⟩) ((bcloneS u2).set (1 : Int).toNat (w8 ((w8 ((w8 (q626.tdiv 16)) * 16)) + (w8 u1)))).length cap606) ?_; intro a661 hF662; clear hF660
     have hc664 := hp645.1; have hp665 := hp645.2; clear hp645
     refine fcl hF662 hM655 (.int .u8 (gsumS u0 ((bcloneS u2).set (1 : Int).toNat (w8 ((w8 ((w8 (q626.tdiv 16)) * 16)) + (w8 u1)))))) 42 #[.int .i64 u0, .slice (some ⟨g620, 0, none⟩) ((bcloneS u2).set (1 : Int).toNat (w8 ((w8 ((w8 (q626.tdiv 16)) * 16)) + (w8 u1)))).length cap606] (nog rfl _) rfl (by kernel_rfl) (fun _ => by kernel_rfl) ((by obtain ⟨Z9, hle9, hon9, hs663⟩ := hM655.lend 0 rfl; exact lgsum_fun u0 ((bcloneS u2).set (1 : Int).toNat (w8 ((w8 ((w8 (q626.tdiv 16)) * 16)) + (w8 u1)))) hc664 (some ⟨g620, 0, none⟩) cap606 _ _ hs663 (SlR.mono hg5 hle9) hon9)) ?_; intro a666 wd668 hF667 hM669; clear hF662 hM655
     have hc670 := hp665.1; have hp671 := hp665.2; clear hp665
     refine ixo hF667 hM669 0 (T := (tyInt .u8)) (xs := (bcloneS u2).set (1 : Int).toNat (w8 ((w8 ((w8 (q626.tdiv 16)) * 16)) + (w8 u1)))) (0 : Int) hc670 (k := .i64) (e := 5) (bytes := 1) (nog rfl _) rfl (by kernel_rfl) rfl (by kernel_rfl) (by kernel_rfl) rfl (by kernel_rfl) ?_; intro g672 a674 hg673 hF675; clear hF667
     obtain rfl : g620 = g672 := by simpa using hg673
     have hF676 : Fr 96 [] [⟨0, [], .int .i64 u0⟩, ⟨1, [], .int .i64 u1⟩, ⟨2, [], .slice ao1 u2.length cap2⟩, ⟨8, [], .slice ao43 ((gputS u0 u1 (bcloneS u2)).1).length cap44⟩, ⟨9, [], .int .i64 ((gputS u0 u1 (bcloneS u2)).2)⟩, ⟨11, [], .slice (some ⟨g620, 0, none⟩) ((bcloneS u2).set (1 : Int).toNat (w8 ((w8 ((w8 (q626.tdiv 16)) * 16)) + (w8 u1)))).length cap606⟩, ⟨72, [], .slice ao1 u2.length cap2⟩, ⟨73, [], .slice (some ⟨g620, 0, none⟩) ((bcloneS u2).set (1 : Int).toNat (w8 ((w8 ((w8 (q626.tdiv 16)) * 16)) + (w8 u1)))).length cap606⟩, ⟨74, [], .slice (some ⟨g620, 0, none⟩) ((bcloneS u2).set (1 : Int).toNat (w8 ((w8 ((w8 (q626.tdiv 16)) * 16)) + (w8 u1)))).length cap606⟩, ⟨75, [], .slice (some ⟨g620, 0, none⟩) ((bcloneS u2).set (1 : Int).toNat (w8 ((w8 ((w8 (q626.tdiv 16)) * 16)) + (w8 u1)))).length cap606⟩, ⟨76, [], .pointer (some ⟨g620, (1 : Int).toNat * 1, none⟩)⟩, ⟨77, [], .int .u8 q626⟩, ⟨78, [], .int .u8 (w8 (q626.tdiv 16))⟩, ⟨79, [], .int .u8 (w8 ((w8 (q626.tdiv 16)) * 16))⟩, ⟨80, [], .int .i64 u1⟩, ⟨81, [], .int .u8 (w8 u1)⟩, ⟨82, [], .int .u8 (w8 ((w8 ((w8 (q626.tdiv 16)) * 16)) + (w8 u1)))⟩, ⟨83, [], .pointer (some ⟨g620, (1 : Int).toNat * 1, none⟩)⟩, ⟨84, [], .slice (some ⟨g620, 0, none⟩) ((bcloneS u2).set (1 : Int).toNat (w8 ((w8 ((w8 (q626.tdiv 16)) * 16)) + (w8 u1)))).length cap606⟩, ⟨85, [], .int .i64 u0⟩, ⟨86, [], .slice (some ⟨g620, 0, none⟩) ((bcloneS u2).set (1 : Int).toNat (w8 ((w8 ((w8 (q626.tdiv 16)) * 16)) + (w8 u1)))).length cap606⟩, ⟨87, [], .int .u8 (gsumS u0 ((bcloneS u2).set (1 : Int).toNat (w8 ((w8 ((w8 (q626.tdiv 16)) * 16)) + (w8 u1)))))⟩, ⟨88, [], .pointer (some ⟨g620, (0 : Int).toNat * 1, none⟩)⟩] a674 := hF675.reg; clear hF675
     have hM677 : Mem w.heap.size [] w Z [.own (tyInt .u8) 5 (some ⟨g620, 0, none⟩) cap606 ((bcloneS u2).set (1 : Int).toNat (w8 ((w8 ((w8 (q626.tdiv 16)) * 16)) + (w8 u1)))), .own (tyInt .u8) 5 ao43 cap44 ((gputS u0 u1 (bcloneS u2)).1)] Z607 wd668 := hM669; clear hM669
     refine so hF676 hM677 0 (T := (tyInt .u8)) (xs := (bcloneS u2).set (1 : Int).toNat (w8 ((w8 ((w8 (q626.tdiv 16)) * 16)) + (w8 u1)))) (0 : Int).toNat (gsumS u0 ((bcloneS u2).set (1 : Int).toNat (w8 ((w8 ((w8 (q626.tdiv 16)) * 16)) + (w8 u1))))) (u := .int .u8 (gsumS u0 ((bcloneS u2).set (1 : Int).toNat (w8 ((w8 ((w8 (q626.tdiv 16)) * 16)) + (w8 u1)))))) (nog rfl _) rfl rfl (by kernel_rfl) rfl (by kernel_rfl) rfl (by kernel_rfl) (by first | omega | (simp only [List.length_set] at *; omega)) rfl ?_; intro wd678 hM679; clear hM677
     have hF680 : Fr 96 [] [⟨0, [], .int .i64 u0⟩, ⟨1, [], .int .i64 u1⟩, ⟨2, [], .slice ao1 u2.length cap2⟩, ⟨8, [], .slice ao43 ((gputS u0 u1 (bcloneS u2)).1).length cap44⟩, ⟨9, [], .int .i64 ((gputS u0 u1 (bcloneS u2)).2)⟩, ⟨11, [], .slice (some ⟨g620, 0, none⟩) (((bcloneS u2).set (1 : Int).toNat (w8 ((w8 ((w8 (q626.tdiv 16)) * 16)) + (w8 u1)))).set (0 : Int).toNat (gsumS u0 ((bcloneS u2).set (1 : Int).toNat (w8 ((w8 ((w8 (q626.tdiv 16)) * 16)) + (w8 u1)))))).length cap606⟩, ⟨72, [], .slice ao1 u2.length cap2⟩, ⟨73, [], .slice (some ⟨g620, 0, none⟩) (((bcloneS u2).set (1 : Int).toNat (w8 ((w8 ((w8 (q626.tdiv 16)) * 16)) + (w8 u1)))).set (0 : Int).toNat (gsumS u0 ((bcloneS u2).set (1 : Int).toNat (w8 ((w8 ((w8 (q626.tdiv 16)) * 16)) + (w8 u1)))))).length cap606⟩, ⟨74, [], .slice (some ⟨g620, 0, none⟩) (((bcloneS u2).set (1 : Int).toNat (w8 ((w8 ((w8 (q626.tdiv 16)) * 16)) + (w8 u1)))).set (0 : Int).toNat (gsumS u0 ((bcloneS u2).set (1 : Int).toNat (w8 ((w8 ((w8 (q626.tdiv 16)) * 16)) + (w8 u1)))))).length cap606⟩, ⟨75, [], .slice (some ⟨g620, 0, none⟩) (((bcloneS u2).set (1 : Int).toNat (w8 ((w8 ((w8 (q626.tdiv 16)) * 16)) + (w8 u1)))).set (0 : Int).toNat (gsumS u0 ((bcloneS u2).set (1 : Int).toNat (w8 ((w8 ((w8 (q626.tdiv 16)) * 16)) + (w8 u1)))))).length cap606⟩, ⟨76, [], .pointer (some ⟨g620, (1 : Int).toNat * 1, none⟩)⟩, ⟨77, [], .int .u8 q626⟩, ⟨78, [], .int .u8 (w8 (q626.tdiv 16))⟩, ⟨79, [], .int .u8 (w8 ((w8 (q626.tdiv 16)) * 16))⟩, ⟨80, [], .int .i64 u1⟩, ⟨81, [], .int .u8 (w8 u1)⟩, ⟨82, [], .int .u8 (w8 ((w8 ((w8 (q626.tdiv 16)) * 16)) + (w8 u1)))⟩, ⟨83, [], .pointer (some ⟨g620, (1 : Int).toNat * 1, none⟩)⟩, ⟨84, [], .slice (some ⟨g620, 0, none⟩) (((bcloneS u2).set (1 : Int).toNat (w8 ((w8 ((w8 (q626.tdiv 16)) * 16)) + (w8 u1)))).set (0 : Int).toNat (gsumS u0 ((bcloneS u2).set (1 : Int).toNat (w8 ((w8 ((w8 (q626.tdiv 16)) * 16)) + (w8 u1)))))).length cap606⟩, ⟨85, [], .int .i64 u0⟩, ⟨86, [], .slice (some ⟨g620, 0, none⟩) (((bcloneS u2).set (1 : Int).toNat (w8 ((w8 ((w8 (q626.tdiv 16)) * 16)) + (w8 u1)))).set (0 : Int).toNat (gsumS u0 ((bcloneS u2).set (1 : Int).toNat (w8 ((w8 ((w8 (q626.tdiv 16)) * 16)) + (w8 u1)))))).length cap606⟩, ⟨87, [], .int .u8 (gsumS u0 ((bcloneS u2).set (1 : Int).toNat (w8 ((w8 ((w8 (q626.tdiv 16)) * 16)) + (w8 u1)))))⟩, ⟨88, [], .pointer (some ⟨g620, (0 : Int).toNat * 1, none⟩)⟩] a674 := by (try simp only [List.length_set] at hF676); (try simp only [List.length_set]); exact hF676.reg
     clear hF676
     have hM681 : Mem w.heap.size [] w Z [.own (tyInt .u8) 5 (some ⟨g620, 0, none⟩) cap606 (((bcloneS u2).set (1 : Int).toNat (w8 ((w8 ((w8 (q626.tdiv 16)) * 16)) + (w8 u1)))).set (0 : Int).toNat (gsumS u0 ((bcloneS u2).set (1 : Int).toNat (w8 ((w8 ((w8 (q626.tdiv 16)) * 16)) + (w8 u1)))))), .own (tyInt .u8) 5 ao43 cap44 ((gputS u0 u1 (bcloneS u2)).1)] Z607 wd678 := hM679; clear hM679
     refine nlH (hQ656 _ _ ?_); clear hQ656 hQ656Q
     have hF682 : Fr 96 [] [⟨8, [], .slice ao43 ((gputS u0 u1 (bcloneS u2)).1).length cap44⟩, ⟨9, [], .int .i64 ((gputS u0 u1 (bcloneS u2)).2)⟩, ⟨11, [], .slice (some ⟨g620, 0, none⟩) (((bcloneS u2).set (1 : Int).toNat (w8 ((w8 ((w8 (q626.tdiv 16)) * 16)) + (w8 u1)))).set (0 : Int).toNat (gsumS u0 ((bcloneS u2).set (1 : Int).toNat (w8 ((w8 ((w8 (q626.tdiv 16)) * 16)) + (w8 u1)))))).length cap606⟩] a674 := hF680.reg; clear hF680
     refine sqH ?_; intro hQ683Q hQ683
     refine s1 hF682 89 (.int .i64 ((gputS u0 u1 (bcloneS u2)).2)) ?_; intro a684 hF685; clear hF682
     refine s1 hF685 90 (.bool (((gputS u0 u1 (bcloneS u2)).2) == 0)) ?_; intro a686 hF687; clear hF685
     refine s1 hF687 91 (.bool (((gputS u0 u1 (bcloneS u2)).2) == 0)) ?_; intro a688 hF689; clear hF687
     have hF690 := hF689.atom ((((gputS u0 u1 (bcloneS u2)).2) == 0) == true) (by kernel_rfl); clear hF689
     refine gp hF690 92 0 [] (((gputS u0 u1 (bcloneS u2)).2) == 0) (.slice ao43 ((gputS u0 u1 (bcloneS u2)).1).length cap44) rfl rfl ?_; intro a691 hF692; clear hF690
     refine gp hF692 93 0 [] (((gputS u0 u1 (bcloneS u2)).2) == 0) (.slice (some ⟨g620, 0, none⟩) (((bcloneS u2).set (1 : Int).toNat (w8 ((w8 ((w8 (q626.tdiv 16)) * 16)) + (w8 u1)))).set (0 : Int).toNat (gsumS u0 ((bcloneS u2).set (1 : Int).toNat (w8 ((w8 ((w8 (q626.tdiv 16)) * 16)) + (w8 u1)))))).length cap606) rfl rfl ?_; intro a693 hF694; clear hF692
     obtain ⟨Z695, hle696, hM697, hs698⟩ := hM681.freeze 1 rfl
     replace hs3 := hs3.mono hle696
     replace hg5 := hg5.mono hle696
     replace hs35 := hs35.mono hle696
     replace hle0 := Fz.le.trans hle0 hle696
     have hM699 : Mem w.heap.size [] w Z [.own (tyInt .u8) 5 (some ⟨g620, 0, none⟩) cap606 (((bcloneS u2).set (1 : Int).toNat (w8 ((w8 ((w8 (q626.tdiv 16)) * 16)) + (w8 u1)))).set (0 : Int).toNat (gsumS u0 ((bcloneS u2).set (1 : Int).toNat (w8 ((w8 ((w8 (q626.tdiv 16)) * 16)) + (w8 u1))))))] Z695 wd678 := hM697; clear hM697
     obtain ⟨Z700, hle701, hM702, hs703⟩ := hM699.freeze 0 rfl
     replace hs3 := hs3.mono hle701
     replace hg5 := hg5.mono hle701
     replace hs35 := hs35.mono hle701
     replace hs698 := hs698.mono hle701
     replace hle0 := Fz.le.trans hle0 hle701
     have hM704 : Mem w.heap.size [] w Z [] Z700 wd678 := hM702; clear hM702
     refine gcl hF694 hM704 (.bool (beqS ((gputS u0 u1 (bcloneS u2)).1) (((bcloneS u2).set (1 : Int).toNat (w8 ((w8 ((w8 (q626.tdiv 16)) * 16)) + (w8 u1)))).set (0 : Int).toNat (gsumS u0 ((bcloneS u2).set (1 : Int).toNat (w8 ((w8 ((w8 (q626.tdiv 16)) * 16)) + (w8 u1)))))))) 45 #[.slice ao43 ((gputS u0 u1 (bcloneS u2)).1).length cap44, .slice (some ⟨g620, 0, none⟩) (((bcloneS u2).set (1 : Int).toNat (w8 ((w8 ((w8 (q626.tdiv 16)) * 16)) + (w8 u1)))).set (0 : Int).toNat (gsumS u0 ((bcloneS u2).set (1 : Int).toNat (w8 ((w8 ((w8 (q626.tdiv 16)) * 16)) + (w8 u1)))))).length cap606] (m := 0) (cj := []) (bj := ((gputS u0 u1 (bcloneS u2)).2) == 0) rfl rfl (by kernel_rfl) rfl (by kernel_rfl) (by kernel_rfl) (by kernel_rfl) (fun _ => by kernel_rfl) (fun hg => beq_fun ((gputS u0 u1 (bcloneS u2)).1) (((bcloneS u2).set (1 : Int).toNat (w8 ((w8 ((w8 (q626.tdiv 16)) * 16)) + (w8 u1)))).set (0 : Int).toNat (gsumS u0 ((bcloneS u2).set (1 : Int).toNat (w8 ((w8 ((w8 (q626.tdiv 16)) * 16)) + (w8 u1)))))) ao43 cap44 (some ⟨g620, 0, none⟩) cap606 _ _ hs698 hs703 hM704.fz) ?_; intro a705 wd707 hF706 hM708; clear hF694 hM704
     refine st hF706 (.bool ((((gputS u0 u1 (bcloneS u2)).2) == 0) && (beqS ((gputS u0 u1 (bcloneS u2)).1) (((bcloneS u2).set (1 : Int).toNat (w8 ((w8 ((w8 (q626.tdiv 16)) * 16)) + (w8 u1)))).set (0 : Int).toNat (gsumS u0 ((bcloneS u2).set (1 : Int).toNat (w8 ((w8 ((w8 (q626.tdiv 16)) * 16)) + (w8 u1))))))))) (nog rfl _) rfl (by kernel_rfl) (pk_and hF706 (g := []) (m := 0) (b := ((gputS u0 u1 (bcloneS u2)).2) == 0) (v := (beqS ((gputS u0 u1 (bcloneS u2)).1) (((bcloneS u2).set (1 : Int).toNat (w8 ((w8 ((w8 (q626.tdiv 16)) * 16)) + (w8 u1)))).set (0 : Int).toNat (gsumS u0 ((bcloneS u2).set (1 : Int).toNat (w8 ((w8 ((w8 (q626.tdiv 16)) * 16)) + (w8 u1)))))))) rfl (by kernel_rfl) (by kernel_rfl) (by kernel_rfl) rfl) ?_; intro a709 hF710; clear hF706
     refine s1 hF710 6 (.bool ((((gputS u0 u1 (bcloneS u2)).2) == 0) && (beqS ((gputS u0 u1 (bcloneS u2)).1) (((bcloneS u2).set (1 : Int).toNat (w8 ((w8 ((w8 (q626.tdiv 16)) * 16)) + (w8 u1)))).set (0 : Int).toNat (gsumS u0 ((bcloneS u2).set (1 : Int).toNat (w8 ((w8 ((w8 (q626.tdiv 16)) * 16)) + (w8 u1))))))))) ?_; intro a711 hF712; clear hF710
     refine nlH (hQ683 _ _ ?_); clear hQ683 hQ683Q
     refine wp_ret ?_
     refine rt (fn := Tryd.f10) (v := .bool ((((gputS u0 u1 (bcloneS u2)).2) == 0) && (beqS ((gputS u0 u1 (bcloneS u2)).1) (((bcloneS u2).set (1 : Int).toNat (w8 ((w8 ((w8 (q626.tdiv 16)) * 16)) + (w8 u1)))).set (0 : Int).toNat (gsumS u0 ((bcloneS u2).set (1 : Int).toNat (w8 ((w8 ((w8 (q626.tdiv 16)) * 16)) + (w8 u1))))))))) hF712 (re1 hF712 (fn := Tryd.f10) rfl (by kernel_rfl)) ?_
     exact ⟨(((gputS u0 u1 (bcloneS u2)).2) == 0) && (beqS ((gputS u0 u1 (bcloneS u2)).1) (((bcloneS u2).set (1 : Int).toNat (w8 ((w8 ((w8 (q626.tdiv 16)) * 16)) + (w8 u1)))).set (0 : Int).toNat (gsumS u0 ((bcloneS u2).set (1 : Int).toNat (w8 ((w8 ((w8 (q626.tdiv 16)) * 16)) + (w8 u1))))))), rfl, hp671, hM708.below⟩
   ·
    have hp713 := hp505.2 hb515; clear hp505
    refine wp_skip ?_
    refine ibn ?_
    refine thn ?_
    refine wp_seq ?_
    refine sqH ?_; intro hQ714Q hQ714
    refine fcl hF514 hM47 (.bool true) 40 #[] (nog rfl _) rfl (by kernel_rfl) (fun _ => by kernel_rfl) (guarded_fun  _ _ hM47.fz) ?_; intro a715 wd717 hF716 hM718; clear hF514 hM47
    refine s1 hF716 45 (.bool false) ?_; intro a719 hF720; clear hF716
    refine s1 hF720 46 (.bool false) ?_; intro a721 hF722; clear hF720
    refine st hF722 (.slice ao17 (bcloneS u2).length cap18) (by rw [wanted_of hF722 (b := false) rfl rfl (by kernel_rfl) (by kernel_rfl)]; rfl) rfl (by kernel_rfl) (p0 hF722 (by kernel_rfl)) ?_; intro a723 hF724; clear hF722
    refine st hF724 (.slice ao1 u2.length cap2) (by rw [wanted_of hF724 (b := false) rfl rfl (by kernel_rfl) (by kernel_rfl)]; rfl) rfl (by kernel_rfl) (p0 hF724 (by kernel_rfl)) ?_; intro a725 hF726; clear hF724
    refine fcl hF726 hM718 (.bool (beqS (bcloneS u2) u2)) 45 #[.slice ao17 (bcloneS u2).length cap18, .slice ao1 u2.length cap2] (by rw [wanted_of hF726 (b := false) rfl rfl (by kernel_rfl) (by kernel_rfl)]; rfl) rfl (by kernel_rfl) (fun _ => by kernel_rfl) (beq_fun (bcloneS u2) u2 ao17 cap18 ao1 cap2 _ _ hs35 hs3 hM718.fz) ?_; intro a727 wd729 hF728 hM730; clear hF726 hM718
    refine st hF728 (.bool (!(beqS (bcloneS u2) u2))) (by rw [wanted_of hF728 (b := false) rfl rfl (by kernel_rfl) (by kernel_rfl)]; rfl) rfl (by kernel_rfl) (p0 hF728 (by kernel_rfl)) ?_; intro a731 hF732; clear hF728
    refine s1 hF732 51 (.bool (!(beqS (bcloneS u2) u2))) ?_; intro a733 hF734; clear hF732
    refine s1 hF734 52 (.bool (!(beqS (bcloneS u2) u2))) ?_; intro a735 hF736; clear hF734
    have hF737 := hF736.atom ((!(beqS (bcloneS u2) u2)) == false) (by kernel_rfl); clear hF736
    refine gp hF737 53 0 [] (!(beqS (bcloneS u2) u2)) (.int .i64 0) rfl rfl ?_; intro a738 hF739; clear hF737
    refine gp hF739 54 0 [] (!(beqS (bcloneS u2) u2)) (.bool false) rfl rfl ?_; intro a740 hF741; clear hF739
    refine st hF741 (.bool ((!(beqS (bcloneS u2) u2)) || false)) (nog rfl _) rfl (by kernel_rfl) (pk_or hF741 (g := []) (m := 0) (b := !(beqS (bcloneS u2) u2)) (v := false) rfl (by kernel_rfl) (by kernel_rfl) (by kernel_rfl) rfl) ?_; intro a742 hF743; clear hF741
    refine nlH (hQ714 _ _ ?_); clear hQ714 hQ714Q
    refine cd hF743 (t := (!(beqS (bcloneS u2) u2)) || false) (by kernel_rfl) (fun hb744 => ?_) (fun hb744 => ?_)
    ·
     have hp745 := hp713.1 hb744; clear hp713
     have hF746 : Fr 96 [] [⟨2, [], .slice ao1 u2.length cap2⟩, ⟨7, [], .slice ao17 (bcloneS u2).length cap18⟩, ⟨8, [], .slice ao43 ((gputS u0 u1 (bcloneS u2)).1).length cap44⟩, ⟨9, [], .int .i64 ((gputS u0 u1 (bcloneS u2)).2)⟩, ⟨10, [], .int .i64 0⟩] a742 := hF743.reg; clear hF743
     refine sqH ?_; intro hQ747Q hQ747
     refine fcl hF746 hM730 (.bool true) 40 #[] (nog rfl _) rfl (by kernel_rfl) (fun _ => by kernel_rfl) (guarded_fun  _ _ hM730.fz) ?_; intro a748 wd750 hF749 hM751; clear hF746 hM730
     refine s1 hF749 57 (.bool true) ?_; intro a752 hF753; clear hF749
     refine st hF753 (.slice ao17 (bcloneS u2).length cap18) (by rw [wanted_of hF753 (b := true) rfl rfl (by kernel_rfl) (by kernel_rfl)]; rfl) rfl (by kernel_rfl) (p0 hF753 (by kernel_rfl)) ?_; intro a754 hF755; clear hF753
     refine st hF755 (.slice ao1 u2.length cap2) (by rw [wanted_of hF755 (b := true) rfl rfl (by kernel_rfl) (by kernel_rfl)]; rfl) rfl (by kernel_rfl) (p0 hF755 (by kernel_rfl)) ?_; intro a756 hF757; clear hF755
     refine fcl hF757 hM751 (.bool (beqS (bcloneS u2) u2)) 45 #[.slice ao17 (bcloneS u2).length cap18, .slice ao1 u2.length cap2] (by rw [wanted_of hF757 (b := true) rfl rfl (by kernel_rfl) (by kernel_rfl)]; rfl) rfl (by kernel_rfl) (fun _ => by kernel_rfl) (beq_fun (bcloneS u2) u2 ao17 cap18 ao1 cap2 _ _ hs35 hs3 hM751.fz) ?_; intro a758 wd760 hF759 hM761; clear hF757 hM751
     refine s1 hF759 61 (.bool (beqS (bcloneS u2) u2)) ?_; intro a762 hF763; clear hF759
     refine s1 hF763 62 (.bool (beqS (bcloneS u2) u2)) ?_; intro a764 hF765; clear hF763
     have hF766 := hF765.atom ((beqS (bcloneS u2) u2) == true) (by kernel_rfl); clear hF765
     refine gp hF766 63 0 [] ((beqS (bcloneS u2) u2)) (.int .i64 ((gputS u0 u1 (bcloneS u2)).2)) rfl rfl ?_; intro a767 hF768; clear hF766
     refine gp hF768 64 0 [] ((beqS (bcloneS u2) u2)) (.int .i64 0) rfl rfl ?_; intro a769 hF770; clear hF768
     refine gp hF770 65 0 [] ((beqS (bcloneS u2) u2)) (.bool (((gputS u0 u1 (bcloneS u2)).2) == 0)) rfl rfl ?_; intro a771 hF772; clear hF770
     refine st hF772 (.bool ((beqS (bcloneS u2) u2) && (((gputS u0 u1 (bcloneS u2)).2) == 0))) (nog rfl _) rfl (by kernel_rfl) (pk_and hF772 (g := []) (m := 0) (b := (beqS (bcloneS u2) u2)) (v := ((gputS u0 u1 (bcloneS u2)).2) == 0) rfl (by kernel_rfl) (by kernel_rfl) (by kernel_rfl) rfl) ?_; intro a773 hF774; clear hF772
     refine s1 hF774 67 (.bool ((beqS (bcloneS u2) u2) && (((gputS u0 u1 (bcloneS u2)).2) == 0))) ?_; intro a775 hF776; clear hF774
     have hF777 := hF776.atom (((beqS (bcloneS u2) u2) && (((gputS u0 u1 (bcloneS u2)).2) == 0)) == true) (by kernel_rfl); clear hF776
     refine gp hF777 68 1 [] ((beqS (bcloneS u2) u2) && (((gputS u0 u1 (bcloneS u2)).2) == 0)) (.slice ao43 ((gputS u0 u1 (bcloneS u2)).1).length cap44) rfl rfl ?_; intro a778 hF779; clear hF777
     refine gp hF779 69 1 [] ((beqS (bcloneS u2) u2) && (((gputS u0 u1 (bcloneS u2)).2) == 0)) (.int .i64 (((gputS u0 u1 (bcloneS u2)).1).length : Int)) rfl rfl ?_; intro a780 hF781; clear hF779
     refine gp hF781 70 1 [] ((beqS (bcloneS u2) u2) && (((gputS u0 u1 (bcloneS u2)).2) == 0)) (.bool ((((gputS u0 u1 (bcloneS u2)).1).length : Int) == 0)) rfl rfl ?_; intro a782 hF783; clear hF781
     refine st hF783 (.bool (((beqS (bcloneS u2) u2) && (((gputS u0 u1 (bcloneS u2)).2) == 0)) && ((((gputS u0 u1 (bcloneS u2)).1).length : Int) == 0))) (nog rfl _) rfl (by kernel_rfl) (pk_and hF783 (g := []) (m := 1) (b := (beqS (bcloneS u2) u2) && (((gputS u0 u1 (bcloneS u2)).2) == 0)) (v := (((gputS u0 u1 (bcloneS u2)).1).length : Int) == 0) rfl (by kernel_rfl) (by kernel_rfl) (by kernel_rfl) rfl) ?_; intro a784 hF785; clear hF783
     refine s1 hF785 6 (.bool (((beqS (bcloneS u2) u2) && (((gputS u0 u1 (bcloneS u2)).2) == 0)) && ((((gputS u0 u1 (bcloneS u2)).1).length : Int) == 0))) ?_; intro a786 hF787; clear hF785
     refine nlH (hQ747 _ _ ?_); clear hQ747 hQ747Q
     refine wp_ret ?_
     refine thr ?_
     refine rt (fn := Tryd.f10) (v := .bool (((beqS (bcloneS u2) u2) && (((gputS u0 u1 (bcloneS u2)).2) == 0)) && ((((gputS u0 u1 (bcloneS u2)).1).length : Int) == 0))) hF787 (re1 hF787 (fn := Tryd.f10) rfl (by kernel_rfl)) ?_
     exact ⟨((beqS (bcloneS u2) u2) && (((gputS u0 u1 (bcloneS u2)).2) == 0)) && ((((gputS u0 u1 (bcloneS u2)).1).length : Int) == 0), rfl, hp745, hM761.below⟩
    ·
     have hp788 := hp713.2 hb744; clear hp713
     refine wp_skip ?_
     refine thn ?_
     have hF789 : Fr 96 [] [⟨0, [], .int .i64 u0⟩, ⟨1, [], .int .i64 u1⟩, ⟨2, [], .slice ao1 u2.length cap2⟩, ⟨8, [], .slice ao43 ((gputS u0 u1 (bcloneS u2)).1).length cap44⟩, ⟨9, [], .int .i64 ((gputS u0 u1 (bcloneS u2)).2)⟩] a742 := hF743.reg; clear hF743
     refine sqH ?_; intro hQ790Q hQ790
     refine s1 hF789 72 (.slice ao1 u2.length cap2) ?_; intro a791 hF792; clear hF789
     have hc793 := hp788.1; have hp794 := hp788.2; clear hp788
     refine cl hF792 43 #[.slice ao1 u2.length cap2] (nog rfl _) rfl (by kernel_rfl) (by kernel_rfl) ?_
     refine (bclone_fun u2 hc793 ao1 cap2 _ _ hs3 hM730.fz).mono ?_; rintro _ wd795 ⟨ao799, cap800, Z801, rfl, hm⟩; refine ⟨_, rfl, ?_⟩; intro a796 hF797; have hM798 := hM730.callZ hm; have hle802 := hm.ext.le; clear hm hM730 hF792
     replace hs3 := hs3.mono hle802
     replace hg5 := hg5.mono hle802
     replace hs35 := hs35.mono hle802
     replace hle0 := Fz.le.trans hle0 hle802
     have hM803 : Mem w.heap.size [] w Z [.own (tyInt .u8) 5 ao799 cap800 (bcloneS u2), .own (tyInt .u8) 5 ao43 cap44 ((gputS u0 u1 (bcloneS u2)).1)] Z801 wd795 := hM798; clear hM798
     have hp804 := hp794 (hM803.ownSmall 0 rfl); clear hp794
     refine s1 hF797 11 (.slice ao799 (bcloneS u2).length cap800) ?_; intro a805 hF806; clear hF797
     refine nlH (hQ790 _ _ ?_); clear hQ790 hQ790Q
     refine sqH ?_; intro hQ807Q hQ807
     refine s1 hF806 74 (.slice ao799 (bcloneS u2).length cap800) ?_; intro a808 hF809; clear hF806
     refine s1 hF809 75 (.slice ao799 (bcloneS u2).length cap800) ?_; intro a810 hF811; clear hF809
     have hc812 := hp804.1; have hp813 := hp804.2; clear hp804
     refine ixo hF811 hM803 0 (T := (tyInt .u8)) (xs := (bcloneS u2)) (1 : Int) hc812 (k := .i64) (e := 5) (bytes := 1) (nog rfl _) rfl (by kernel_rfl) rfl (by kernel_rfl) (by kernel_rfl) rfl (by kernel_rfl) ?_; intro g814 a816 hg815 hF817; clear hF811
     subst hg815
     have hF818 : Fr 96 [] [⟨0, [], .int .i64 u0⟩, ⟨1, [], .int .i64 u1⟩, ⟨2, [], .slice ao1 u2.length cap2⟩, ⟨8, [], .slice ao43 ((gputS u0 u1 (bcloneS u2)).1).length cap44⟩, ⟨9, [], .int .i64 ((gputS u0 u1 (bcloneS u2)).2)⟩, ⟨11, [], .slice (some ⟨g814, 0, none⟩) (bcloneS u2).length cap800⟩, ⟨72, [], .slice ao1 u2.length cap2⟩, ⟨73, [], .slice (some ⟨g814, 0, none⟩) (bcloneS u2).length cap800⟩, ⟨74, [], .slice (some ⟨g814, 0, none⟩) (bcloneS u2).length cap800⟩, ⟨75, [], .slice (some ⟨g814, 0, none⟩) (bcloneS u2).length cap800⟩, ⟨76, [], .pointer (some ⟨g814, (1 : Int).toNat * 1, none⟩)⟩] a816 := hF817.reg; clear hF817
     have hM819 : Mem w.heap.size [] w Z [.own (tyInt .u8) 5 (some ⟨g814, 0, none⟩) cap800 (bcloneS u2), .own (tyInt .u8) 5 ao43 cap44 ((gputS u0 u1 (bcloneS u2)).1)] Z801 wd795 := hM803; clear hM803
     obtain ⟨q820, hq821⟩ : ∃ q, (bcloneS u2)[(1 : Int).toNat]? = some q := ⟨_, List.getElem?_eq_getElem (by first | omega | (simp only [List.length_set] at *; omega))⟩; have hp822 := hp813 q820 hq821; clear hp813
     obtain ⟨cs823, hT824, hcl825⟩ := own_el hM819 0 (T := (tyInt .u8)) (xs := (bcloneS u2)) rfl (1 : Int).toNat hq821
     obtain rfl : cs823 = ([.int .u8 q820] : List Value) := hT824
     refine lc1 hF818 77 (.int .u8 q820) (hcl825 0 _ rfl) rfl ?_; intro a826 hF827; clear hF818
     refine s1 hF827 78 (.int .u8 (w8 (q820.tdiv 16))) ?_; intro a828 hF829; clear hF827
     refine s1 hF829 79 (.int .u8 (w8 ((w8 (q820.tdiv 16)) * 16))) ?_; intro a830 hF831; clear hF829
     refine s1 hF831 80 (.int .i64 u1) ?_; intro a832 hF833; clear hF831
     refine s1 hF833 81 (.int .u8 (w8 u1)) ?_; intro a834 hF835; clear hF833
     refine s1 hF835 82 (.int .u8 (w8 ((w8 ((w8 (q820.tdiv 16)) * 16)) + (w8 u1)))) ?_; intro a836 hF837; clear hF835
     have hc838 := hp822.1; have hp839 := hp822.2; clear hp822
     refine ixo hF837 hM819 0 (T := (tyInt .u8)) (xs := (bcloneS u2)) (1 : Int) hc838 (k := .i64) (e := 5) (bytes := 1) (nog rfl _) rfl (by kernel_rfl) rfl (by kernel_rfl) (by kernel_rfl) rfl (by kernel_rfl) ?_; intro g840 a842 hg841 hF843; clear hF837
     obtain rfl : g814 = g840 := by simpa using hg841
     have hF844 : Fr 96 [] [⟨0, [], .int .i64 u0⟩, ⟨1, [], .int .i64 u1⟩, ⟨2, [], .slice ao1 u2.length cap2⟩, ⟨8, [], .slice ao43 ((gputS u0 u1 (bcloneS u2)).1).length cap44⟩, ⟨9, [], .int .i64 ((gputS u0 u1 (bcloneS u2)).2)⟩, ⟨11, [], .slice (some ⟨g814, 0, none⟩) (bcloneS u2).length cap800⟩, ⟨72, [], .slice ao1 u2.length cap2⟩, ⟨73, [], .slice (some ⟨g814, 0, none⟩) (bcloneS u2).length cap800⟩, ⟨74, [], .slice (some ⟨g814, 0, none⟩) (bcloneS u2).length cap800⟩, ⟨75, [], .slice (some ⟨g814, 0, none⟩) (bcloneS u2).length cap800⟩, ⟨76, [], .pointer (some ⟨g814, (1 : Int).toNat * 1, none⟩)⟩, ⟨77, [], .int .u8 q820⟩, ⟨78, [], .int .u8 (w8 (q820.tdiv 16))⟩, ⟨79, [], .int .u8 (w8 ((w8 (q820.tdiv 16)) * 16))⟩, ⟨80, [], .int .i64 u1⟩, ⟨81, [], .int .u8 (w8 u1)⟩, ⟨82, [], .int .u8 (w8 ((w8 ((w8 (q820.tdiv 16)) * 16)) + (w8 u1)))⟩, ⟨83, [], .pointer (some ⟨g814, (1 : Int).toNat * 1, none⟩)⟩] a842 := hF843.reg; clear hF843
     have hM845 : Mem w.heap.size [] w Z [.own (tyInt .u8) 5 (some ⟨g814, 0, none⟩) cap800 (bcloneS u2), .own (tyInt .u8) 5 ao43 cap44 ((gputS u0 u1 (bcloneS u2)).1)] Z801 wd795 := hM819; clear hM819
     refine so hF844 hM845 0 (T := (tyInt .u8)) (xs := (bcloneS u2)) (1 : Int).toNat (w8 ((w8 ((w8 (q820.tdiv 16)) * 16)) + (w8 u1))) (u := .int .u8 (w8 ((w8 ((w8 (q820.tdiv 16)) * 16)) + (w8 u1)))) (nog rfl _) rfl rfl (by kernel_rfl) rfl (by kernel_rfl) rfl (by kernel_rfl) (by first | omega | (simp only [List.length_set] at *; omega)) rfl ?_; intro wd846 hM847; clear hM845
     have hF848 : Fr 96 [] [⟨0, [], .int .i64 u0⟩, ⟨1, [], .int .i64 u1⟩, ⟨2, [], .slice ao1 u2.length cap2⟩, ⟨8, [], .slice ao43 ((gputS u0 u1 (bcloneS u2)).1).length cap44⟩, ⟨9, [], .int .i64 ((gputS u0 u1 (bcloneS u2)).2)⟩, ⟨11, [], .slice (some ⟨g814, 0, none⟩) ((bcloneS u2).set (1 : Int).toNat (w8 ((w8 ((w8 (q820.tdiv 16)) * 16)) + (w8 u1)))).length cap800⟩, ⟨72, [], .slice ao1 u2.length cap2⟩, ⟨73, [], .slice (some ⟨g814, 0, none⟩) ((bcloneS u2).set (1 : Int).toNat (w8 ((w8 ((w8 (q820.tdiv 16)) * 16)) + (w8 u1)))).length cap800⟩, ⟨74, [], .slice (some ⟨g814, 0, none⟩) ((bcloneS u2).set (1 : Int).toNat (w8 ((w8 ((w8 (q820.tdiv 16)) * 16)) + (w8 u1)))).length cap800⟩, ⟨75, [], .slice (some ⟨g814, 0, none⟩) ((bcloneS u2).set (1 : Int).toNat (w8 ((w8 ((w8 (q820.tdiv 16)) * 16)) + (w8 u1)))).length cap800⟩, ⟨76, [], .pointer (some ⟨g814, (1 : Int).toNat * 1, none⟩)⟩, ⟨77, [], .int .u8 q820⟩, ⟨78, [], .int .u8 (w8 (q820.tdiv 16))⟩, ⟨79, [], .int .u8 (w8 ((w8 (q820.tdiv 16)) * 16))⟩, ⟨80, [], .int .i64 u1⟩, ⟨81, [], .int .u8 (w8 u1)⟩, ⟨82, [], .int .u8 (w8 ((w8 ((w8 (q820.tdiv 16)) * 16)) + (w8 u1)))⟩, ⟨83, [], .pointer (some ⟨g814, (1 : Int).toNat * 1, none⟩)⟩] a842 := by (try simp only [List.length_set] at hF844); (try simp only [List.length_set]); exact hF844.reg
     clear hF844
     have hM849 : Mem w.heap.size [] w Z [.own (tyInt .u8) 5 (some ⟨g814, 0, none⟩) cap800 ((bcloneS u2).set (1 : Int).toNat (w8 ((w8 ((w8 (q820.tdiv 16)) * 16)) + (w8 u1)))), .own (tyInt .u8) 5 ao43 cap44 ((gputS u0 u1 (bcloneS u2)).1)] Z801 wd846 := hM847; clear hM847
     refine nlH (hQ807 _ _ ?_); clear hQ807 hQ807Q
     refine sqH ?_; intro hQ850Q hQ850
     refine s1 hF848 84 (.slice (some ⟨g814, 0, none⟩) ((bcloneS u2).set (1 : Int).toNat (w8 ((w8 ((w8 (q820.tdiv 16)) * 16)) + (w8 u1)))).length cap800) ?_; intro a851 hF852; clear hF848
     refine s1 hF852 85 (.int .i64 u0) ?_; intro a853 hF854; clear hF852
     refine s1 hF854 86 (.slice (some ⟨g814, 0, none⟩) ((bcloneS u2).set (1 : Int).toNat (w8 ((w8 ((w8 (q820.tdiv 16)) * 16)) + (w8 u1)))).length cap800) ?_; intro a855 hF856; clear hF854
     have hc858 := hp839.1; have hp859 := hp839.2; clear hp839
     refine fcl hF856 hM849 (.int .u8 (gsumS u0 ((bcloneS u2).set (1 : Int).toNat (w8 ((w8 ((w8 (q820.tdiv 16)) * 16)) + (w8 u1)))))) 42 #[.int .i64 u0, .slice (some ⟨g814, 0, none⟩) ((bcloneS u2).set (1 : Int).toNat (w8 ((w8 ((w8 (q820.tdiv 16)) * 16)) + (w8 u1)))).length cap800] (nog rfl _) rfl (by kernel_rfl) (fun _ => by kernel_rfl) ((by obtain ⟨Z9, hle9, hon9, hs857⟩ := hM849.lend 0 rfl; exact lgsum_fun u0 ((bcloneS u2).set (1 : Int).toNat (w8 ((w8 ((w8 (q820.tdiv 16)) * 16)) + (w8 u1)))) hc858 (some ⟨g814, 0, none⟩) cap800 _ _ hs857 (SlR.mono hg5 hle9) hon9)) ?_; intro a860 wd862 hF861 hM863; clear hF856 hM849
     have hc864 := hp859.1; have hp865 := hp859.2; clear hp859
     refine ixo hF861 hM863 0 (T := (tyInt .u8)) (xs := (bcloneS u2).set (1 : Int).toNat (w8 ((w8 ((w8 (q820.tdiv 16)) * 16)) + (w8 u1)))) (0 : Int) hc864 (k := .i64) (e := 5) (bytes := 1) (nog rfl _) rfl (by kernel_rfl) rfl (by kernel_rfl) (by kernel_rfl) rfl (by kernel_rfl) ?_; intro g866 a868 hg867 hF869; clear hF861
     obtain rfl : g814 = g866 := by simpa using hg867
     have hF870 : Fr 96 [] [⟨0, [], .int .i64 u0⟩, ⟨1, [], .int .i64 u1⟩, ⟨2, [], .slice ao1 u2.length cap2⟩, ⟨8, [], .slice ao43 ((gputS u0 u1 (bcloneS u2)).1).length cap44⟩, ⟨9, [], .int .i64 ((gputS u0 u1 (bcloneS u2)).2)⟩, ⟨11, [], .slice (some ⟨g814, 0, none⟩) ((bcloneS u2).set (1 : Int).toNat (w8 ((w8 ((w8 (q820.tdiv 16)) * 16)) + (w8 u1)))).length cap800⟩, ⟨72, [], .slice ao1 u2.length cap2⟩, ⟨73, [], .slice (some ⟨g814, 0, none⟩) ((bcloneS u2).set (1 : Int).toNat (w8 ((w8 ((w8 (q820.tdiv 16)) * 16)) + (w8 u1)))).length cap800⟩, ⟨74, [], .slice (some ⟨g814, 0, none⟩) ((bcloneS u2).set (1 : Int).toNat (w8 ((w8 ((w8 (q820.tdiv 16)) * 16)) + (w8 u1)))).length cap800⟩, ⟨75, [], .slice (some ⟨g814, 0, none⟩) ((bcloneS u2).set (1 : Int).toNat (w8 ((w8 ((w8 (q820.tdiv 16)) * 16)) + (w8 u1)))).length cap800⟩, ⟨76, [], .pointer (some ⟨g814, (1 : Int).toNat * 1, none⟩)⟩, ⟨77, [], .int .u8 q820⟩, ⟨78, [], .int .u8 (w8 (q820.tdiv 16))⟩, ⟨79, [], .int .u8 (w8 ((w8 (q820.tdiv 16)) * 16))⟩, ⟨80, [], .int .i64 u1⟩, ⟨81, [], .int .u8 (w8 u1)⟩, ⟨82, [], .int .u8 (w8 ((w8 ((w8 (q820.tdiv 16)) * 16)) + (w8 u1)))⟩, ⟨83, [], .pointer (some ⟨g814, (1 : Int).toNat * 1, none⟩)⟩, ⟨84, [], .slice (some ⟨g814, 0, none⟩) ((bcloneS u2).set (1 : Int).toNat (w8 ((w8 ((w8 (q820.tdiv 16)) * 16)) + (w8 u1)))).length cap800⟩, ⟨85, [], .int .i64 u0⟩, ⟨86, [], .slice (some ⟨g814, 0, none⟩) ((bcloneS u2).set (1 : Int).toNat (w8 ((w8 ((w8 (q820.tdiv 16)) * 16)) + (w8 u1)))).length cap800⟩, ⟨87, [], .int .u8 (gsumS u0 ((bcloneS u2).set (1 : Int).toNat (w8 ((w8 ((w8 (q820.tdiv 16)) * 16)) + (w8 u1)))))⟩, ⟨88, [], .pointer (some ⟨g814, (0 : Int).toNat * 1, none⟩)⟩] a868 := hF869.reg; clear hF869
     have hM871 : Mem w.heap.size [] w Z [.own (tyInt .u8) 5 (some ⟨g814, 0, none⟩) cap800 ((bcloneS u2).set (1 : Int).toNat (w8 ((w8 ((w8 (q820.tdiv 16)) * 16)) + (w8 u1)))), .own (tyInt .u8) 5 ao43 cap44 ((gputS u0 u1 (bcloneS u2)).1)] Z801 wd862 := hM863; clear hM863
     refine so hF870 hM871 0 (T := (tyInt .u8)) (xs := (bcloneS u2).set (1 : Int).toNat (w8 ((w8 ((w8 (q820.tdiv 16)) * 16)) + (w8 u1)))) (0 : Int).toNat (gsumS u0 ((bcloneS u2).set (1 : Int).toNat (w8 ((w8 ((w8 (q820.tdiv 16)) * 16)) + (w8 u1))))) (u := .int .u8 (gsumS u0 ((bcloneS u2).set (1 : Int).toNat (w8 ((w8 ((w8 (q820.tdiv 16)) * 16)) + (w8 u1)))))) (nog rfl _) rfl rfl (by kernel_rfl) rfl (by kernel_rfl) rfl (by kernel_rfl) (by first | omega | (simp only [List.length_set] at *; omega)) rfl ?_; intro wd872 hM873; clear hM871
     have hF874 : Fr 96 [] [⟨0, [], .int .i64 u0⟩, ⟨1, [], .int .i64 u1⟩, ⟨2, [], .slice ao1 u2.length cap2⟩, ⟨8, [], .slice ao43 ((gputS u0 u1 (bcloneS u2)).1).length cap44⟩, ⟨9, [], .int .i64 ((gputS u0 u1 (bcloneS u2)).2)⟩, ⟨11, [], .slice (some ⟨g814, 0, none⟩) (((bcloneS u2).set (1 : Int).toNat (w8 ((w8 ((w8 (q820.tdiv 16)) * 16)) + (w8 u1)))).set (0 : Int).toNat (gsumS u0 ((bcloneS u2).set (1 : Int).toNat (w8 ((w8 ((w8 (q820.tdiv 16)) * 16)) + (w8 u1)))))).length cap800⟩, ⟨72, [], .slice ao1 u2.length cap2⟩, ⟨73, [], .slice (some ⟨g814, 0, none⟩) (((bcloneS u2).set (1 : Int).toNat (w8 ((w8 ((w8 (q820.tdiv 16)) * 16)) + (w8 u1)))).set (0 : Int).toNat (gsumS u0 ((bcloneS u2).set (1 : Int).toNat (w8 ((w8 ((w8 (q820.tdiv 16)) * 16)) + (w8 u1)))))).length cap800⟩, ⟨74, [], .slice (some ⟨g814, 0, none⟩) (((bcloneS u2).set (1 : Int).toNat (w8 ((w8 ((w8 (q820.tdiv 16)) * 16)) + (w8 u1)))).set (0 : Int).toNat (gsumS u0 ((bcloneS u2).set (1 : Int).toNat (w8 ((w8 ((w8 (q820.tdiv 16)) * 16)) + (w8 u1)))))).length cap800⟩, ⟨75, [], .slice (some ⟨g814, 0, none⟩) (((bcloneS u2).set (1 : Int).toNat (w8 ((w8 ((w8 (q820.tdiv 16)) * 16)) + (w8 u1)))).set (0 : Int).toNat (gsumS u0 ((bcloneS u2).set (1 : Int).toNat (w8 ((w8 ((w8 (q820.tdiv 16)) * 16)) + (w8 u1)))))).length cap800⟩, ⟨76, [], .pointer (some ⟨g814, (1 : Int).toNat * 1, none⟩)⟩, ⟨77, [], .int .u8 q820⟩, ⟨78, [], .int .u8 (w8 (q820.tdiv 16))⟩, ⟨79, [], .int .u8 (w8 ((w8 (q820.tdiv 16)) * 16))⟩, ⟨80, [], .int .i64 u1⟩, ⟨81, [], .int .u8 (w8 u1)⟩, ⟨82, [], .int .u8 (w8 ((w8 ((w8 (q820.tdiv 16)) * 16)) + (w8 u1)))⟩, ⟨83, [], .pointer (some ⟨g814, (1 : Int).toNat * 1, none⟩)⟩, ⟨84, [], .slice (some ⟨g814, 0, none⟩) (((bcloneS u2).set (1 : Int).toNat (w8 ((w8 ((w8 (q820.tdiv 16)) * 16)) + (w8 u1)))).set (0 : Int).toNat (gsumS u0 ((bcloneS u2).set (1 : Int).toNat (w8 ((w8 ((w8 (q820.tdiv 16)) * 16)) + (w8 u1)))))).length cap800⟩, ⟨85, [], .int .i64 u0⟩, ⟨86, [], .slice (some ⟨g814, 0, none⟩) (((bcloneS u2).set (1 : Int).toNat (w8 ((w8 ((w8 (q820.tdiv 16)) * 16)) + (w8 u1)))).set (0 : Int).toNat (gsumS u0 ((bcloneS u2).set (1 : Int).toNat (w8 ((w8 ((w8 (q820.tdiv 16)) * 16)) + (w8 u1)))))).length cap800⟩, ⟨87, [], .int .u8 (gsumS u0 ((bcloneS u2).set (1 : Int).toNat (w8 ((w8 ((w8 (q820.tdiv 16)) * 16)) + (w8 u1)))))⟩, ⟨88, [], .pointer (some ⟨g814, (0 : Int).toNat * 1, none⟩)⟩] a868 := by (try simp only [List.length_set] at hF870); (try simp only [List.length_set]); exact hF870.reg
     clear hF870
     have hM875 : Mem w.heap.size [] w Z [.own (tyInt .u8) 5 (some ⟨g814, 0, none⟩) cap800 (((bcloneS u2).set (1 : Int).toNat (w8 ((w8 ((w8 (q820.tdiv 16)) * 16)) + (w8 u1)))).set (0 : Int).toNat (gsumS u0 ((bcloneS u2).set (1 : Int).toNat (w8 ((w8 ((w8 (q820.tdiv 16)) * 16)) + (w8 u1)))))), .own (tyInt .u8) 5 ao43 cap44 ((gputS u0 u1 (bcloneS u2)).1)] Z801 wd872 := hM873; clear hM873
     refine nlH (hQ850 _ _ ?_); clear hQ850 hQ850Q
     have hF876 : Fr 96 [] [⟨8, [], .slice ao43 ((gputS u0 u1 (bcloneS u2)).1).length cap44⟩, ⟨9, [], .int .i64 ((gputS u0 u1 (bcloneS u2)).2)⟩, ⟨11, [], .slice (some ⟨g814, 0, none⟩) (((bcloneS u2).set (1 : Int).toNat (w8 ((w8 ((w8 (q820.tdiv 16)) * 16)) + (w8 u1)))).set (0 : Int).toNat (gsumS u0 ((bcloneS u2).set (1 : Int).toNat (w8 ((w8 ((w8 (q820.tdiv 16)) * 16)) + (w8 u1)))))).length cap800⟩] a868 := hF874.reg; clear hF874
     refine sqH ?_; intro hQ877Q hQ877
     refine s1 hF876 89 (.int .i64 ((gputS u0 u1 (bcloneS u2)).2)) ?_; intro a878 hF879; clear hF876
     refine s1 hF879 90 (.bool (((gputS u0 u1 (bcloneS u2)).2) == 0)) ?_; intro a880 hF881; clear hF879
     refine s1 hF881 91 (.bool (((gputS u0 u1 (bcloneS u2)).2) == 0)) ?_; intro a882 hF883; clear hF881
     have hF884 := hF883.atom ((((gputS u0 u1 (bcloneS u2)).2) == 0) == true) (by kernel_rfl); clear hF883
     refine gp hF884 92 0 [] (((gputS u0 u1 (bcloneS u2)).2) == 0) (.slice ao43 ((gputS u0 u1 (bcloneS u2)).1).length cap44) rfl rfl ?_; intro a885 hF886; clear hF884
     refine gp hF886 93 0 [] (((gputS u0 u1 (bcloneS u2)).2) == 0) (.slice (some ⟨g814, 0, none⟩) (((bcloneS u2).set (1 : Int).toNat (w8 ((w8 ((w8 (q820.tdiv 16)) * 16)) + (w8 u1)))).set (0 : Int).toNat (gsumS u0 ((bcloneS u2).set (1 : Int).toNat (w8 ((w8 ((w8 (q820.tdiv 16)) * 16)) + (w8 u1)))))).length cap800) rfl rfl ?_; intro a887 hF888; clear hF886
     obtain ⟨Z889, hle890, hM891, hs892⟩ := hM875.freeze 1 rfl
     replace hs3 := hs3.mono hle890
     replace hg5 := hg5.mono hle890
     replace hs35 := hs35.mono hle890
     replace hle0 := Fz.le.trans hle0 hle890
     have hM893 : Mem w.heap.size [] w Z [.own (tyInt .u8) 5 (some ⟨g814, 0, none⟩) cap800 (((bcloneS u2).set (1 : Int).toNat (w8 ((w8 ((w8 (q820.tdiv 16)) * 16)) + (w8 u1)))).set (0 : Int).toNat (gsumS u0 ((bcloneS u2).set (1 : Int).toNat (w8 ((w8 ((w8 (q820.tdiv 16)) * 16)) + (w8 u1))))))] Z889 wd872 := hM891; clear hM891
     obtain ⟨Z894, hle895, hM896, hs897⟩ := hM893.freeze 0 rfl
     replace hs3 := hs3.mono hle895
     replace hg5 := hg5.mono hle895
     replace hs35 := hs35.mono hle895
     replace hs892 := hs892.mono hle895
     replace hle0 := Fz.le.trans hle0 hle895
     have hM898 : Mem w.heap.size [] w Z [] Z894 wd872 := hM896; clear hM896
     refine gcl hF888 hM898 (.bool (beqS ((gputS u0 u1 (bcloneS u2)).1) (((bcloneS u2).set (1 : Int).toNat (w8 ((w8 ((w8 (q820.tdiv 16)) * 16)) + (w8 u1)))).set (0 : Int).toNat (gsumS u0 ((bcloneS u2).set (1 : Int).toNat (w8 ((w8 ((w8 (q820.tdiv 16)) * 16)) + (w8 u1)))))))) 45 #[.slice ao43 ((gputS u0 u1 (bcloneS u2)).1).length cap44, .slice (some ⟨g814, 0, none⟩) (((bcloneS u2).set (1 : Int).toNat (w8 ((w8 ((w8 (q820.tdiv 16)) * 16)) + (w8 u1)))).set (0 : Int).toNat (gsumS u0 ((bcloneS u2).set (1 : Int).toNat (w8 ((w8 ((w8 (q820.tdiv 16)) * 16)) + (w8 u1)))))).length cap800] (m := 0) (cj := []) (bj := ((gputS u0 u1 (bcloneS u2)).2) == 0) rfl rfl (by kernel_rfl) rfl (by kernel_rfl) (by kernel_rfl) (by kernel_rfl) (fun _ => by kernel_rfl) (fun hg => beq_fun ((gputS u0 u1 (bcloneS u2)).1) (((bcloneS u2).set (1 : Int).toNat (w8 ((w8 ((w8 (q820.tdiv 16)) * 16)) + (w8 u1)))).set (0 : Int).toNat (gsumS u0 ((bcloneS u2).set (1 : Int).toNat (w8 ((w8 ((w8 (q820.tdiv 16)) * 16)) + (w8 u1)))))) ao43 cap44 (some ⟨g814, 0, none⟩) cap800 _ _ hs892 hs897 hM898.fz) ?_; intro a899 wd901 hF900 hM902; clear hF888 hM898
     refine st hF900 (.bool ((((gputS u0 u1 (bcloneS u2)).2) == 0) && (beqS ((gputS u0 u1 (bcloneS u2)).1) (((bcloneS u2).set (1 : Int).toNat (w8 ((w8 ((w8 (q820.tdiv 16)) * 16)) + (w8 u1)))).set (0 : Int).toNat (gsumS u0 ((bcloneS u2).set (1 : Int).toNat (w8 ((w8 ((w8 (q820.tdiv 16)) * 16)) + (w8 u1))))))))) (nog rfl _) rfl (by kernel_rfl) (pk_and hF900 (g := []) (m := 0) (b := ((gputS u0 u1 (bcloneS u2)).2) == 0) (v := (beqS ((gputS u0 u1 (bcloneS u2)).1) (((bcloneS u2).set (1 : Int).toNat (w8 ((w8 ((w8 (q820.tdiv 16)) * 16)) + (w8 u1)))).set (0 : Int).toNat (gsumS u0 ((bcloneS u2).set (1 : Int).toNat (w8 ((w8 ((w8 (q820.tdiv 16)) * 16)) + (w8 u1)))))))) rfl (by kernel_rfl) (by kernel_rfl) (by kernel_rfl) rfl) ?_; intro a903 hF904; clear hF900
     refine s1 hF904 6 (.bool ((((gputS u0 u1 (bcloneS u2)).2) == 0) && (beqS ((gputS u0 u1 (bcloneS u2)).1) (((bcloneS u2).set (1 : Int).toNat (w8 ((w8 ((w8 (q820.tdiv 16)) * 16)) + (w8 u1)))).set (0 : Int).toNat (gsumS u0 ((bcloneS u2).set (1 : Int).toNat (w8 ((w8 ((w8 (q820.tdiv 16)) * 16)) + (w8 u1))))))))) ?_; intro a905 hF906; clear hF904
     refine nlH (hQ877 _ _ ?_); clear hQ877 hQ877Q
     refine wp_ret ?_
     refine rt (fn := Tryd.f10) (v := .bool ((((gputS u0 u1 (bcloneS u2)).2) == 0) && (beqS ((gputS u0 u1 (bcloneS u2)).1) (((bcloneS u2).set (1 : Int).toNat (w8 ((w8 ((w8 (q820.tdiv 16)) * 16)) + (w8 u1)))).set (0 : Int).toNat (gsumS u0 ((bcloneS u2).set (1 : Int).toNat (w8 ((w8 ((w8 (q820.tdiv 16)) * 16)) + (w8 u1))))))))) hF906 (re1 hF906 (fn := Tryd.f10) rfl (by kernel_rfl)) ?_
     exact ⟨(((gputS u0 u1 (bcloneS u2)).2) == 0) && (beqS ((gputS u0 u1 (bcloneS u2)).1) (((bcloneS u2).set (1 : Int).toNat (w8 ((w8 ((w8 (q820.tdiv 16)) * 16)) + (w8 u1)))).set (0 : Int).toNat (gsumS u0 ((bcloneS u2).set (1 : Int).toNat (w8 ((w8 ((w8 (q820.tdiv 16)) * 16)) + (w8 u1))))))), rfl, hp865, hM902.below⟩

end Go.Proofs.YtinegicenfndkaaDoor
