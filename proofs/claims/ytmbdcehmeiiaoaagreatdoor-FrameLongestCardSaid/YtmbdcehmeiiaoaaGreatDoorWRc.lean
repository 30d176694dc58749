/- The walks, made by program: each call does what its pure predicate says. -/
import Derived.Test.YtmbdcehmeiiaoaaGreatDoorPRc
import Derived.Test.YtmbdcehmeiiaoaaGreatDoorWRb
set_option linter.unusedVariables false
set_option linter.unusedSimpArgs false
namespace Go.Proofs.YtmbdcehmeiiaoaaGreatDoor
open Go.Sy Go.RowKit
theorem rhead_fun (u0 : Frame) (hpre : fcheckfr u0 = 0 ∧ ∀ x ∈ u0.Data, 0 ≤ x ∧ x ≤ 255) (ao1 : Option Addr) (cap2 : Nat) (Z : Fz) (w : World) (hs3 : SlR (tyInt .u8) Z ao1 cap2 u0.Data) (hg5 : SlR (tyInt .u8) Z (some ⟨5, 0, none⟩) 64 deBruijn64) (hZ : Z.on w) : Calls Tryz.prog 60 #[.agg #[.int .i64 u0.ID, .bool u0.Long, .bool u0.Fast, .bool u0.Remote, .int .i64 u0.Size, .slice ao1 u0.Data.length cap2]] w fun e w' => e = .returned (str (fheadS u0)) ∧ Below w.heap.size w w' :=
  (rhead_walk u0 ao1 cap2 Z w hs3 hg5 hZ (rhead_ok u0 hpre)).mono fun _ _ ⟨r, he, hk, hb⟩ => ⟨by subst hk; exact he, hb⟩

set_option maxRecDepth 100000 in
set_option maxHeartbeats 0 in
theorem rlong_walk (u0 : Bool) (u1 : Bool) (u2 : Int)  (Z : Fz) (w : World) (hg5 : SlR (tyInt .u8) Z (some ⟨5, 0, none⟩) 64 deBruijn64) (hZ : Z.on w) {K : Int → Prop} (hp : rlong_vc u0 u1 u2 K) : Calls Tryz.prog 23 #[.bool u0, .bool u1, .int .i64 u2] w fun e w' => ∃ r : Int, e = .returned (.int .i64 r) ∧ K r ∧ Below w.heap.size w w' := by
 refine enter0 Tryz.func23 rfl rfl (by kernel_rfl) ?_; intro a0 hF0; have hM0 := Mem.start w Z hZ; have hle0 := Fz.le.refl Z
 refine sqH ?_; intro hQ1Q hQ1
 refine s1 hF0 6 (.int .i64 0) ?_; intro a2 hF3; clear hF0
 refine nlH (hQ1 _ _ ?_); clear hQ1 hQ1Q
 refine sqH ?_; intro hQ4Q hQ4
 refine s1 hF3 10 (.bool u0) ?_; intro a5 hF6; clear hF3
 refine s1 hF6 11 (.bool u1) ?_; intro a7 hF8; clear hF6
 refine s1 hF8 12 (.int .i64 u2) ?_; intro a9 hF10; clear hF8
 have hc11 := hp.1; have hp12 := hp.2; clear hp
 refine mks hF10 hM0 (T := (tyInt .u8)) u2 u2 (k := .i64) (k' := .i64) (e := 5) (bytes := 1) (zs := [.int .u8 0]) (z := 0) (by simp only [lim]; omega) (nog rfl _) rfl (by kernel_rfl) rfl (by kernel_rfl) (by kernel_rfl) (by kernel_rfl) (by kernel_rfl) rfl ?_; intro g13 a16 wd14 hF17 hM15; clear hF10 hM0
 have hM18 : Mem w.heap.size [] w Z [.own (tyInt .u8) 5 (some ⟨g13, 0, none⟩) u2.toNat (List.replicate u2.toNat (0 : Int))] Z wd14 := hM15; clear hM15
 refine s1 hF17 14 (.agg #[.int .i64 0, .bool u0, .bool u1, .bool false, .int .i64 0, .slice (some ⟨g13, 0, none⟩) (List.replicate u2.toNat (0 : Int)).length u2.toNat]) ?_; intro a19 hF20; clear hF17
 obtain ⟨Z21, hle22, hM23, hs24⟩ := hM18.freeze 0 rfl
 replace hg5 := hg5.mono hle22
 replace hle0 := Fz.le.trans hle0 hle22
 have hM25 : Mem w.heap.size [] w Z [] Z21 wd14 := hM23; clear hM23
 have hc26 := hp12.1; have hp27 := hp12.2; clear hp12
 refine fcl hF20 hM25 (str (fheadS (⟨0, u0, u1, false, 0, (List.replicate u2.toNat (0 : Int))⟩ : Frame))) 60 #[.agg #[.int .i64 0, .bool u0, .bool u1, .bool false, .int .i64 0, .slice (some ⟨g13, 0, none⟩) (List.replicate u2.toNat (0 : Int)).length u2.toNat]] (nog rfl _) rfl (by kernel_rfl) (fun _ => by kernel_rfl) (rhead_fun (⟨0, u0, u1, false, 0, (List.replicate u2.toNat (0 : Int))⟩ : Frame) hc26 (some ⟨g13, 0, none⟩) u2.toNat _ _ hs24 hg5 hM25.fz) ?_; intro a28 wd30 hF29 hM31; clear hF20 hM25
 refine s1 hF29 16 (.int .i64 ((fheadS (⟨0, u0, u1, false, 0, (List.replicate u2.toNat (0 : Int))⟩ : Frame)).length : Int)) ?_; intro a32 hF33; clear hF29
 refine s1 hF33 7 (.int .i64 ((fheadS (⟨0, u0, u1, false, 0, (List.replicate u2.toNat (0 : Int))⟩ : Frame)).length : Int)) ?_; intro a34 hF35; clear hF33
 refine nlH (hQ4 _ _ ?_); clear hQ4 hQ4Q
 refine sqH ?_; intro hQ36Q hQ36
 refine s1 hF35 8 (.func (.func 64) #[] #[]) ?_; intro a37 hF38; clear hF35
 refine nlH (hQ36 _ _ ?_); clear hQ36 hQ36Q
 refine wp_seq ?_
 refine sqH ?_; intro hQ39Q hQ39
 refine s1 hF38 17 (.bool u1) ?_; intro a40 hF41; clear hF38
 refine s1 hF41 18 (.bool (!u1)) ?_; intro a42 hF43; clear hF41
 refine nlH (hQ39 _ _ ?_); clear hQ39 hQ39Q
 refine cd hF43 (t := !u1) (by kernel_rfl) (fun hb44 => ?_) (fun hb44 => ?_)
 · -- yes
  have hp45 := hp27.1 hb44; clear hp27
  refine sqH ?_; intro hQ46Q hQ46
  refine s1 hF43 19 (.func (.func 64) #[] #[]) ?_; intro a47 hF48; clear hF43
  refine s1 hF48 20 (.int .i64 ((fheadS (⟨0, u0, u1, false, 0, (List.replicate u2.toNat (0 : Int))⟩ : Frame)).length : Int)) ?_; intro a49 hF50; clear hF48
  refine s1 hF50 21 (.int .i64 (w64 (((fheadS (⟨0, u0, u1, false, 0, (List.replicate u2.toNat (0 : Int))⟩ : Frame)).length : Int) + 15))) ?_; intro a51 hF52; clear hF50
  refine fcl hF52 hM31 (.int .i64 (rlmost (w64 (((fheadS (⟨0, u0, u1, false, 0, (List.replicate u2.toNat (0 : Int))⟩ : Frame)).length : Int) + 15)))) 64 #[.int .i64 (w64 (((fheadS (⟨0, u0, u1, false, 0, (List.replicate u2.toNat (0 : Int))⟩ : Frame)).length : Int) + 15))] (nog rfl _) rfl (by kernel_rfl) (fun _ => by kernel_rfl) (rlmost_fun (w64 (((fheadS (⟨0, u0, u1, false, 0, (List.replicate u2.toNat (0 : Int))⟩ : Frame)).length : Int) + 15)) _ _ hM31.fz) ?_; intro a53 wd55 hF54 hM56; clear hF52 hM31
  refine s1 hF54 23 (.int .i64 (w64 ((rlmost (w64 (((fheadS (⟨0, u0, u1, false, 0, (List.replicate u2.toNat (0 : Int))⟩ : Frame)).length : Int) + 15))) + 10))) ?_; intro a57 hF58; clear hF54
  refine s1 hF58 6 (.int .i64 (w64 ((rlmost (w64 (((fheadS (⟨0, u0, u1, false, 0, (List.replicate u2.toNat (0 : Int))⟩ : Frame)).length : Int) + 15))) + 10))) ?_; intro a59 hF60; clear hF58
  refine nlH (hQ46 _ _ ?_); clear hQ46 hQ46Q
  refine wp_ret ?_
  refine thr ?_
  refine rt (fn := Tryz.f23) (v := .int .i64 (w64 ((rlmost (w64 (((fheadS (⟨0, u0, u1, false, 0, (List.replicate u2.toNat (0 : Int))⟩ : Frame)).length : Int) + 15))) + 10))) hF60 (re1 hF60 (fn := Tryz.f23) rfl (by kernel_rfl)) ?_
  exact ⟨w64 ((rlmost (w64 (((fheadS (⟨0, u0, u1, false, 0, (List.replicate u2.toNat (0 : Int))⟩ : Frame)).length : Int) + 15))) + 10), rfl, hp45, hM56.below⟩
 · -- no
  have hp61 := hp27.2 hb44; clear hp27
  refine wp_skip ?_
  refine thn ?_
  refine sqH ?_; intro hQ62Q hQ62
  refine s1 hF43 9 (.int .i64 21) ?_; intro a63 hF64; clear hF43
  refine nlH (hQ62 _ _ ?_); clear hQ62 hQ62Q
  refine wp_seq ?_
  refine sqH ?_; intro hQ65Q hQ65
  refine s1 hF64 24 (.int .i64 u2) ?_; intro a66 hF67; clear hF64
  refine s1 hF67 25 (.bool (decide (u2 > 16))) ?_; intro a68 hF69; clear hF67
  refine nlH (hQ65 _ _ ?_); clear hQ65 hQ65Q
  refine cd hF69 (t := decide (u2 > 16)) (by kernel_rfl) (fun hb70 => ?_) (fun hb70 => ?_)
  · -- yes
   have hp71 := hp61.1 hb70; clear hp61
   have hF72 : Fr 36 [] [⟨7, [], .int .i64 ((fheadS (⟨0, u0, u1, false, 0, (List.replicate u2.toNat (0 : Int))⟩ : Frame)).length : Int)⟩, ⟨8, [], .func (.func 64) #[] #[]⟩] a68 := hF69.region (by kernel_rfl) (by kernel_rfl); clear hF69
   refine rgH ?_; intro hQ73Q hQ73
   refine s1 hF72 9 (.int .i64 25) ?_; intro a74 hF75; clear hF72
   refine nlH (hQ73 _ _ ?_); clear hQ73 hQ73Q
   refine thn ?_
   refine sqH ?_; intro hQ76Q hQ76
   refine s1 hF75 26 (.func (.func 64) #[] #[]) ?_; intro a77 hF78; clear hF75
   refine s1 hF78 27 (.int .i64 ((fheadS (⟨0, u0, u1, false, 0, (List.replicate u2.toNat (0 : Int))⟩ : Frame)).length : Int)) ?_; intro a79 hF80; clear hF78
   refine fcl hF80 hM31 (.int .i64 (rlmost ((fheadS (⟨0, u0, u1, false, 0, (List.replicate u2.toNat (0 : Int))⟩ : Frame)).length : Int))) 64 #[.int .i64 ((fheadS (⟨0, u0, u1, false, 0, (List.replicate u2.toNat (0 : Int))⟩ : Frame)).length : Int)] (nog rfl _) rfl (by kernel_rfl) (fun _ => by kernel_rfl) (rlmost_fun ((fheadS (⟨0, u0, u1, false, 0, (List.replicate u2.toNat (0 : Int))⟩ : Frame)).length : Int) _ _ hM31.fz) ?_; intro a81 wd83 hF82 hM84; clear hF80 hM31
   refine s1 hF82 29 (.int .i64 25) ?_; intro a85 hF86; clear hF82
   refine s1 hF86 30 (.int .i64 (w64 ((rlmost ((fheadS (⟨0, u0, u1, false, 0, (List.replicate u2.toNat (0 : Int))⟩ : Frame)).length : Int)) + 25))) ?_; intro a87 hF88; clear hF86
   refine s1 hF88 31 (.int .i64 25) ?_; intro a89 hF90; clear hF88
   refine s1 hF90 32 (.int .i64 28) ?_; intro a91 hF92; clear hF90
   refine s1 hF92 33 (.int .i64 7) ?_; intro a93 hF94; clear hF92
   refine s1 hF94 34 (.int .i64 (w64 ((w64 ((rlmost ((fheadS (⟨0, u0, u1, false, 0, (List.replicate u2.toNat (0 : Int))⟩ : Frame)).length : Int)) + 25)) + 7))) ?_; intro a95 hF96; clear hF94
   refine s1 hF96 35 (.int .i64 (w64 ((w64 ((w64 ((rlmost ((fheadS (⟨0, u0, u1, false, 0, (List.replicate u2.toNat (0 : Int))⟩ : Frame)).length : Int)) + 25)) + 7)) + 10))) ?_; intro a97 hF98; clear hF96
   refine s1 hF98 6 (.int .i64 (w64 ((w64 ((w64 ((rlmost ((fheadS (⟨0, u0, u1, false, 0, (List.replicate u2.toNat (0 : Int))⟩ : Frame)).length : Int)) + 25)) + 7)) + 10))) ?_; intro a99 hF100; clear hF98
   refine nlH (hQ76 _ _ ?_); clear hQ76 hQ76Q
   refine wp_ret ?_
   refine rt (fn := Tryz.f23) (v := .int .i64 (w64 ((w64 ((w64 ((rlmost ((fheadS (⟨0, u0, u1, false, 0, (List.replicate u2.toNat (0 : Int))⟩ : Frame)).length : Int)) + 25)) + 7)) + 10))) hF100 (re1 hF100 (fn := Tryz.f23) rfl (by kernel_rfl)) ?_
   exact ⟨w64 ((w64 ((w64 ((rlmost ((fheadS (⟨0, u0, u1, false, 0, (List.replicate u2.toNat (0 : Int))⟩ : Frame)).length : Int)) + 25)) + 7)) + 10), rfl, hp71, hM84.below⟩
  · -- no
   have hp101 := hp61.2 hb70; clear hp61
   refine wp_skip ?_
   refine thn ?_
   have hF102 : Fr 36 [] [⟨7, [], .int .i64 ((fheadS (⟨0, u0, u1, false, 0, (List.replicate u2.toNat (0 : Int))⟩ : Frame)).length : Int)⟩, ⟨8, [], .func (.func 64) #[] #[]⟩, ⟨9, [], .int .i64 21⟩] a68 := hF69.region (by kernel_rfl) (by kernel_rfl); clear hF69
   refine sqH ?_; intro hQ103Q hQ103
   refine s1 hF102 26 (.func (.func 64) #[] #[]) ?_; intro a104 hF105; clear hF102
   refine s1 hF105 27 (.int .i64 ((fheadS (⟨0, u0, u1, false, 0, (List.replicate u2.toNat (0 : Int))⟩ : Frame)).length : Int)) ?_; intro a106 hF107; clear hF105
   refine fcl hF107 hM31 (.int .i64 (rlmost ((fheadS (⟨0, u0, u1, false, 0, (List.replicate u2.toNat (0 : Int))⟩ : Frame)).length : Int))) 64 #[.int .i64 ((fheadS (⟨0, u0, u1, false, 0, (List.replicate u2.toNat (0 : Int))⟩ : Frame)).length : Int)] (nog rfl _) rfl (by kernel_rfl) (fun _ => by kernel_rfl) (rlmost_fun ((fheadS (⟨0, u0, u1, false, 0, (List.replicate u2.toNat (0 : Int))⟩ : Frame)).length : Int) _ _ hM31.fz) ?_; intro a108 wd110 hF109 hM111; clear hF107 hM31
   refine s1 hF109 29 (.int .i64 21) ?_; intro a112 hF113; clear hF109
   refine s1 hF113 30 (.int .i64 (w64 ((rlmost ((fheadS (⟨0, u0, u1, false, 0, (List.replicate u2.toNat (0 : Int))⟩ : Frame)).length : Int)) + 21))) ?_; intro a114 hF115; clear hF113
   refine s1 hF115 31 (.int .i64 21) ?_; intro a116 hF117; clear hF115
   refine s1 hF117 32 (.int .i64 24) ?_; intro a118 hF119; clear hF117
   refine s1 hF119 33 (.int .i64 6) ?_; intro a120 hF121; clear hF119
   refine s1 hF121 34 (.int .i64 (w64 ((w64 ((rlmost ((fheadS (⟨0, u0, u1, false, 0, (List.replicate u2.toNat (0 : Int))⟩ : Frame)).length : Int)) + 21)) + 6))) ?_; intro a122 hF123; clear hF121
   refine s1 hF123 35 (.int .i64 (w64 ((w64 ((w64 ((rlmost ((fheadS (⟨0, u0, u1, false, 0, (List.replicate u2.toNat (0 : Int))⟩ : Frame)).length : Int)) + 21)) + 6)) + 10))) ?_; intro a124 hF125; clear hF123
   refine s1 hF125 6 (.int .i64 (w64 ((w64 ((w64 ((rlmost ((fheadS (⟨0, u0, u1, false, 0, (List.replicate u2.toNat (0 : Int))⟩ : Frame)).length : Int)) + 21)) + 6)) + 10))) ?_; intro a126 hF127; clear hF125
   refine nlH (hQ103 _ _ ?_); clear hQ103 hQ103Q
   refine wp_ret ?_
   refine rt (fn := Tryz.f23) (v := .int .i64 (w64 ((w64 ((w64 ((rlmost ((fheadS (⟨0, u0, u1, false, 0, (List.replicate u2.toNat (0 : Int))⟩ : Frame)).length : Int)) + 21)) + 6)) + 10))) hF127 (re1 hF127 (fn := Tryz.f23) rfl (by kernel_rfl)) ?_
   exact ⟨w64 ((w64 ((w64 ((rlmost ((fheadS (⟨0, u0, u1, false, 0, (List.replicate u2.toNat (0 : Int))⟩ : Frame)).length : Int)) + 21)) + 6)) + 10), rfl, hp101, hM111.below⟩

end Go.Proofs.YtmbdcehmeiiaoaaGreatDoor
