/- The walks, made by program: each call does what its pure predicate says. -/
import Derived.Test.YtinegicenfndkaaDoorPB
import Derived.Test.YtinegicenfndkaaDoorWA
set_option linter.unusedVariables false
set_option linter.unusedSimpArgs false
namespace Go.Proofs.YtinegicenfndkaaDoor
open Go.Sy Go.RowKit
theorem bread_fun (u0 : List UInt8) (hpre : u0.length ≤ 62 ∧ isRow u0 = true)  (Z : Fz) (w : World)  (hZ : Z.on w) : Calls Tryd.prog 79 #[str u0] w fun e w' => e = .returned (.int .u64 (breadS u0)) ∧ Below w.heap.size w w' :=
  (bread_walk u0  Z w  hZ (bread_ok u0 hpre)).mono fun _ _ ⟨r, he, hk, hb⟩ => ⟨by subst hk; exact he, hb⟩

theorem bwrite_fun (u0 : Int) (u1 : Int) (hpre : 0 ≤ u1 ∧ u1 ≤ 64 ∧ 0 ≤ u0 ∧ u0 < 2 ^ 62)  (Z : Fz) (w : World)  (hZ : Z.on w) : Calls Tryd.prog 47 #[.int .u64 u0, .int .i64 u1] w fun e w' => e = .returned (str (bwriteS u0 u1)) ∧ Below w.heap.size w w' :=
  (bwrite_walk u0 u1  Z w  hZ (bwrite_ok u0 u1 hpre)).mono fun _ _ ⟨r, he, hk, hb⟩ => ⟨by subst hk; exact he, hb⟩

theorem bcheck_fun (u0 : List UInt8)  (Z : Fz) (w : World)  (hZ : Z.on w) : Calls Tryd.prog 15 #[str u0] w fun e w' => e = .returned (.int .i64 (bcheckS u0)) ∧ Below w.heap.size w w' :=
  (bcheck_walk u0  Z w  hZ (bcheck_ok u0)).mono fun _ _ ⟨r, he, hk, hb⟩ => ⟨by subst hk; exact he, hb⟩

theorem ksum_fun (u0 : Kind) (u1 : List UInt8) (hpre : okKindS u0 ∧ u1.length ≤ 1000000)  (Z : Fz) (w : World)  (hZ : Z.on w) : Calls Tryd.prog 48 #[.agg #[.int .i64 u0.Size, .int .u64 u0.Poly, .int .u64 u0.From, .int .u64 u0.End], str u1] w fun e w' => e = .returned (.int .u64 (ksumS u0 u1)) ∧ Below w.heap.size w w' :=
  (ksum_walk u0 u1  Z w  hZ (ksum_ok u0 u1 hpre)).mono fun _ _ ⟨r, he, hk, hb⟩ => ⟨by subst hk; exact he, hb⟩

theorem rcheckrow_fun (u0 : List UInt8)  (Z : Fz) (w : World)  (hZ : Z.on w) : Calls Tryd.prog 18 #[str u0] w fun e w' => e = .returned (.int .i64 (bcheckS u0)) ∧ Below w.heap.size w w' :=
  (rcheckrow_walk u0  Z w  hZ (rcheckrow_ok u0)).mono fun _ _ ⟨r, he, hk, hb⟩ => ⟨by subst hk; exact he, hb⟩

set_option maxRecDepth 100000 in
set_option maxHeartbeats 0 in
theorem bnumber_walk (u0 : List UInt8)  (Z : Fz) (w : World)  (hZ : Z.on w) {K : (Int × Int) → Prop} (hp : bnumber_vc u0 K) : Calls Tryd.prog 50 #[str u0] w fun e w' => ∃ r : Int × Int, e = .returned (.tuple #[.int .i64 r.1, .int .i64 r.2]) ∧ K r ∧ Below w.heap.size w w' := by
 refine enter0 Tryd.func50 rfl rfl (by kernel_rfl) ?_; intro a0 hF0; have hM0 := Mem.start w Z hZ; have hle0 := Fz.le.refl Z
 refine sqH ?_; intro hQ1Q hQ1
 refine s1 hF0 2 (.int .i64 0) ?_; intro a2 hF3; clear hF0
 refine s1 hF3 3 (.int .i64 0) ?_; intro a4 hF5; clear hF3
 refine nlH (hQ1 _ _ ?_); clear hQ1 hQ1Q
 refine wp_seq ?_
 refine sqH ?_; intro hQ6Q hQ6
 refine s1 hF5 5 (str u0) ?_; intro a7 hF8; clear hF5
 refine fcl hF8 hM0 (.int .i64 (bcheckS u0)) 15 #[str u0] (nog rfl _) rfl (by kernel_rfl) (fun _ => by kernel_rfl) (bcheck_fun u0 _ _ hM0.fz) ?_; intro a9 wd11 hF10 hM12; clear hF8 hM0
 refine s1 hF10 4 (.int .i64 (bcheckS u0)) ?_; intro a13 hF14; clear hF10
 refine nlH (hQ6 _ _ ?_); clear hQ6 hQ6Q
 refine sqH ?_; intro hQ15Q hQ15
 refine s1 hF14 7 (.int .i64 (bcheckS u0)) ?_; intro a16 hF17; clear hF14
 refine s1 hF17 8 (.bool ((bcheckS u0) != 0)) ?_; intro a18 hF19; clear hF17
 refine nlH (hQ15 _ _ ?_); clear hQ15 hQ15Q
 refine cd hF19 (t := (bcheckS u0) != 0) (by kernel_rfl) (fun hb20 => ?_) (fun hb20 => ?_)
 · -- yes
  have hp21 := hp.1 hb20; clear hp
  refine sqH ?_; intro hQ22Q hQ22
  refine s1 hF19 9 (.int .i64 (bcheckS u0)) ?_; intro a23 hF24; clear hF19
  refine s1 hF24 2 (.int .i64 0) ?_; intro a25 hF26; clear hF24
  refine s1 hF26 3 (.int .i64 (bcheckS u0)) ?_; intro a27 hF28; clear hF26
  refine nlH (hQ22 _ _ ?_); clear hQ22 hQ22Q
  refine wp_ret ?_
  refine thr ?_
  refine rt (fn := Tryd.f50) (v := .tuple #[.int .i64 0, .int .i64 (bcheckS u0)]) hF28 (re2 hF28 (fn := Tryd.f50) rfl (by kernel_rfl) (by kernel_rfl)) ?_
  exact ⟨(0, (bcheckS u0)), rfl, hp21, hM12.below⟩
 · -- no
  have hp29 := hp.2 hb20; clear hp
  refine wp_skip ?_
  refine thn ?_
  refine wp_seq ?_
  refine sqH ?_; intro hQ30Q hQ30
  refine s1 hF19 10 (str u0) ?_; intro a31 hF32; clear hF19
  refine s1 hF32 11 (.int .i64 (u0.length : Int)) ?_; intro a33 hF34; clear hF32
  refine s1 hF34 12 (.bool (decide ((u0.length : Int) > 62))) ?_; intro a35 hF36; clear hF34
  refine nlH (hQ30 _ _ ?_); clear hQ30 hQ30Q
  refine cd hF36 (t := decide ((u0.length : Int) > 62)) (by kernel_rfl) (fun hb37 => ?_) (fun hb37 => ?_)
  · -- yes
   have hp38 := hp29.1 hb37; clear hp29
   refine sqH ?_; intro hQ39Q hQ39
   refine s1 hF36 2 (.int .i64 0) ?_; intro a40 hF41; clear hF36
   refine s1 hF41 3 (.int .i64 2) ?_; intro a42 hF43; clear hF41
   refine nlH (hQ39 _ _ ?_); clear hQ39 hQ39Q
   refine wp_ret ?_
   refine thr ?_
   refine rt (fn := Tryd.f50) (v := .tuple #[.int .i64 0, .int .i64 2]) hF43 (re2 hF43 (fn := Tryd.f50) rfl (by kernel_rfl) (by kernel_rfl)) ?_
   exact ⟨(0, 2), rfl, hp38, hM12.below⟩
  · -- no
   have hp44 := hp29.2 hb37; clear hp29
   refine wp_skip ?_
   refine thn ?_
   refine sqH ?_; intro hQ45Q hQ45
   refine s1 hF36 13 (str u0) ?_; intro a46 hF47; clear hF36
   have hc48 := hp44.1; have hp49 := hp44.2; clear hp44
   refine fcl hF47 hM12 (.int .u64 (breadS u0)) 79 #[str u0] (nog rfl _) rfl (by kernel_rfl) (fun _ => by kernel_rfl) (bread_fun u0 hc48 _ _ hM12.fz) ?_; intro a50 wd52 hF51 hM53; clear hF47 hM12
   refine s1 hF51 15 (.int .i64 (w64 (breadS u0))) ?_; intro a54 hF55; clear hF51
   refine s1 hF55 2 (.int .i64 (w64 (breadS u0))) ?_; intro a56 hF57; clear hF55
   refine s1 hF57 3 (.int .i64 0) ?_; intro a58 hF59; clear hF57
   refine nlH (hQ45 _ _ ?_); clear hQ45 hQ45Q
   refine wp_ret ?_
   refine rt (fn := Tryd.f50) (v := .tuple #[.int .i64 (w64 (breadS u0)), .int .i64 0]) hF59 (re2 hF59 (fn := Tryd.f50) rfl (by kernel_rfl) (by kernel_rfl)) ?_
   exact ⟨(w64 (breadS u0), 0), rfl, hp49, hM53.below⟩

set_option maxRecDepth 100000 in
set_option maxHeartbeats 0 in
theorem bof_walk (u0 : List Int) (ao1 : Option Addr) (cap2 : Nat) (Z : Fz) (w : World) (hs3 : SlR (tyInt .u8) Z ao1 cap2 u0) (hZ : Z.on w) {K : ((List UInt8) × Int) → Prop} (hp : bof_vc u0 K) : Calls Tryd.prog 49 #[.slice ao1 u0.length cap2] w fun e w' => ∃ r : (List UInt8) × Int, e = .returned (.tuple #[str r.1, .int .i64 r.2]) ∧ K r ∧ Below w.heap.size w w' := by
 refine enter0 Tryd.func49 rfl rfl (by kernel_rfl) ?_; intro a0 hF0; have hM0 := Mem.start w Z hZ; have hle0 := Fz.le.refl Z
 have hzB := Go.Sy.zB hZ
 have hp4 := hp (hs3.small); clear hp
 refine sqH ?_; intro hQ5Q hQ5
 refine s1 hF0 2 (str []) ?_; intro a6 hF7; clear hF0
 refine s1 hF7 3 (.int .i64 0) ?_; intro a8 hF9; clear hF7
 refine nlH (hQ5 _ _ ?_); clear hQ5 hQ5Q
 refine wp_seq ?_
 refine sqH ?_; intro hQ10Q hQ10
 refine s1 hF9 7 (.slice ao1 u0.length cap2) ?_; intro a11 hF12; clear hF9
 refine s1 hF12 8 (.int .i64 (u0.length : Int)) ?_; intro a13 hF14; clear hF12
 refine s1 hF14 9 (.bool (decide ((u0.length : Int) > 125))) ?_; intro a15 hF16; clear hF14
 refine nlH (hQ10 _ _ ?_); clear hQ10 hQ10Q
 refine cd hF16 (t := decide ((u0.length : Int) > 125)) (by kernel_rfl) (fun hb17 => ?_) (fun hb17 => ?_)
 · -- yes
  have hp18 := hp4.1 hb17; clear hp4
  refine sqH ?_; intro hQ19Q hQ19
  refine s1 hF16 2 (str []) ?_; intro a20 hF21; clear hF16
  refine s1 hF21 3 (.int .i64 2) ?_; intro a22 hF23; clear hF21
  refine nlH (hQ19 _ _ ?_); clear hQ19 hQ19Q
  refine wp_ret ?_
  refine thr ?_
  refine rt (fn := Tryd.f49) (v := .tuple #[str [], .int .i64 2]) hF23 (re2 hF23 (fn := Tryd.f49) rfl (by kernel_rfl) (by kernel_rfl)) ?_
  exact ⟨([], 2), rfl, hp18, hM0.below⟩
 · -- no
  have hp24 := hp4.2 hb17; clear hp4
  refine wp_skip ?_
  refine thn ?_
  refine sqH ?_; intro hQ25Q hQ25
  refine sn hF16 hM0 (fun b => .pointer (some ⟨b, 0, none⟩)) [.pointer none, .slice none 0 0] 110 (nog rfl _) rfl (by kernel_rfl) (by kernel_rfl) ?_; intro b26 a27 wd29 hF28 hM30; clear hF16 hM0
  refine nlH (hQ25 _ _ ?_); clear hQ25 hQ25Q
  refine wp_seq ?_
  refine sqH ?_; intro hQ31Q hQ31
  refine s1 hF28 10 (.slice ao1 u0.length cap2) ?_; intro a32 hF33; clear hF28
  refine s1 hF33 11 (.int .i64 (u0.length : Int)) ?_; intro a34 hF35; clear hF33
  refine s1 hF35 12 (.int .i64 0) ?_; intro a36 hF37; clear hF35
  refine nlH (hQ31 _ _ ?_); clear hQ31 hQ31Q
  refine wp_block ?_
  have hF38 : Fr 22 [] [⟨4, [], .pointer (some ⟨b26, 0, none⟩)⟩, ⟨10, [], .slice ao1 u0.length cap2⟩, ⟨11, [], .int .i64 (u0.length : Int)⟩, ⟨12, [], .int .i64 0⟩] a36 := hF37.region (by kernel_rfl) (by kernel_rfl); clear hF37
  have hM40 : Mem w.heap.size [] w Z [.row b26 [.pointer none, .slice none ([] : List UInt8).length 0] 110, .own tyByte 5 none 0 ([] : List UInt8)] Z wd29 := hM30.bldNil 5; clear hM30
  have hF41 : Fr 22 [] [⟨4, [], .pointer (some ⟨b26, 0, none⟩)⟩, ⟨10, [], .slice ao1 u0.length cap2⟩, ⟨11, [], .int .i64 (u0.length : Int)⟩, ⟨12, [], .int .i64 0⟩] a36 := hF38.region (by kernel_rfl) (by kernel_rfl); clear hF38
  obtain ⟨inv39, mu39, hI44, hr43⟩ := hp24
  refine lp (ι := Int × (List UInt8) × Value × (Option Addr) × Nat) (fun (s : Int × (List UInt8) × Value × (Option Addr) × Nat) => [⟨4, [], .pointer (some ⟨b26, 0, none⟩)⟩, ⟨10, [], .slice ao1 u0.length cap2⟩, ⟨11, [], .int .i64 (u0.length : Int)⟩, ⟨12, [], .int .i64 s.1⟩]) (fun (s : Int × (List UInt8) × Value × (Option Addr) × Nat) => [.row b26 [s.2.2.1, .slice s.2.2.2.1 s.2.1.length s.2.2.2.2] 110, .own tyByte 5 s.2.2.2.1 s.2.2.2.2 s.2.1]) (fun (s : Int × (List UInt8) × Value × (Option Addr) × Nat) => Z) (fun (s : Int × (List UInt8) × Value × (Option Addr) × Nat) => inv39 s.1 s.2.1 ∧ (s.2.2.1 = .pointer none ∨ s.2.2.1 = .pointer (some ⟨b26, 0, none⟩))) (fun (s : Int × (List UInt8) × Value × (Option Addr) × Nat) => mu39 s.1 s.2.1) ⟨0, ([] : List UInt8), (.pointer none), none, 0⟩ ⟨hI44, (.inl rfl)⟩ (by exact hF41.region (by kernel_rfl) (by kernel_rfl)) (by exact hM40) ?_
  rintro ⟨x12, yb26, vpyb26, aoyb26, capyb26⟩ ⟨hI42, hvpyb26⟩ a46 wd47 hF48 hM49
  have hF50 : Fr 22 [] [⟨4, [], .pointer (some ⟨b26, 0, none⟩)⟩, ⟨10, [], .slice ao1 u0.length cap2⟩, ⟨11, [], .int .i64 (u0.length : Int)⟩, ⟨12, [], .int .i64 x12⟩] a46 := hF48; clear hF48 hF41
  have hM51 : Mem w.heap.size [] w Z [.row b26 [vpyb26, .slice aoyb26 yb26.length capyb26] 110, .own tyByte 5 aoyb26 capyb26 yb26] Z wd47 := hM49; clear hM49 hM40
  have hp52 := hr43 x12 yb26 hI42
  refine sqH ?_; intro hQ53Q hQ53
  refine s1 hF50 13 (.bool (decide (x12 < (u0.length : Int)))) ?_; intro a54 hF55; clear hF50
  refine nlH (hQ53 _ _ ?_); clear hQ53 hQ53Q
  refine wp_seq ?_
  refine cd hF55 (t := decide (x12 < (u0.length : Int))) (by kernel_rfl) (fun hb56 => ?_) (fun hb56 => ?_)
  · -- yes
   have hp57 := hp52.1 hb56; clear hp52
   refine wp_skip ?_
   refine thn ?_
   refine wp_seq ?_
   refine wp_block ?_
   refine sqH ?_; intro hQ58Q hQ58
   have hc59 := hp57.1; have hp60 := hp57.2; clear hp57
   refine ix hF55 (T := (tyInt .u8)) (xs := u0) hs3 x12 hc59 (k := .i64) (e := 5) (bytes := 1) (nog rfl _) rfl (by kernel_rfl) rfl (by kernel_rfl) (by kernel_rfl) (by kernel_rfl) ?_; intro b61 off62 cs63 q64 a68 hq65 hP66 hT67 hF69; clear hF55
   have hp70 := hp60 q64 hq65; clear hp60
   obtain rfl : cs63 = ([.int .u8 q64] : List Value) := hT67
   refine z1 hF69 hM51 15 hP66 0 (.int .u8 q64) rfl ?_; intro a71 hF72; clear hF69
   refine s1 hF72 6 (.int .u8 q64) ?_; intro a73 hF74; clear hF72
   refine nlH (hQ58 _ _ ?_); clear hQ58 hQ58Q
   refine rgH ?_; intro hQ75Q hQ75
   refine s1 hF74 16 (.int .u8 q64) ?_; intro a76 hF77; clear hF74
   refine s1 hF77 17 (.int .u64 (wu64 q64)) ?_; intro a78 hF79; clear hF77
   have hc80 := hp70.1; have hp81 := hp70.2; clear hp70
   refine fcl hF79 hM51 (str (bwriteS (wu64 q64) 8)) 47 #[.int .u64 (wu64 q64), .int .i64 8] (nog rfl _) rfl (by kernel_rfl) (fun _ => by kernel_rfl) (bwrite_fun (wu64 q64) 8 hc80 _ _ hM51.fz) ?_; intro a82 wd84 hF83 hM85; clear hF79 hM51
   have hc90 := hp81.1; have hp91 := hp81.2; clear hp81
   refine cl hF83 77 #[.pointer (some ⟨b26, 0, none⟩), str (bwriteS (wu64 q64) 8)] (nog rfl _) rfl (by kernel_rfl) (by kernel_rfl) ?_
   refine (Go.Sy.bld_write Tryd.lays166 Tryd.lays166X hM85 hzB hvpyb26 hc90).mono ?_; rintro _ wd86 ⟨ao92, cap93, rfl, hm⟩; refine ⟨_, rfl, ?_⟩; intro a87 hF88; have hM89 := hm; clear hm hM85 hF83
   have hM94 : Mem w.heap.size [] w Z [.row b26 [.pointer (some ⟨b26, 0, none⟩), .slice ao92 (yb26 ++ (bwriteS (wu64 q64) 8)).length cap93] 110, .own tyByte 5 ao92 cap93 (yb26 ++ (bwriteS (wu64 q64) 8))] Z wd86 := hM89; clear hM89
   refine nlH (hQ75 _ _ ?_); clear hQ75 hQ75Q
   refine ibn ?_
   refine thn ?_
   refine rgH ?_; intro hQ95Q hQ95
   refine s1 hF88 20 (.int .i64 (w64 (x12 + 1))) ?_; intro a96 hF97; clear hF88
   refine s1 hF97 12 (.int .i64 (w64 (x12 + 1))) ?_; intro a98 hF99; clear hF97
   refine nlH (hQ95 _ _ ?_); clear hQ95 hQ95Q
   refine rd ?_
   exact ⟨⟨w64 (x12 + 1), yb26 ++ (bwriteS (wu64 q64) 8), (.pointer (some ⟨b26, 0, none⟩)), ao92, cap93⟩, ⟨hp91.1, (.inr rfl)⟩, hp91.2, (hF99.region (by kernel_rfl) (by kernel_rfl)).anyβ _ (by kernel_rfl), hM94.keep (List.Sublist.cons_cons _ (List.Sublist.cons_cons _ (List.Sublist.slnil)))⟩
  · -- no
   have hp100 := hp52.2 hb56; clear hp52
   refine wp_exit ?_
   refine thx ?_
   refine thx ?_
   refine ibx ?_
   refine thn ?_
   refine sqH ?_; intro hQ101Q hQ101
   refine cl hF55 78 #[.pointer (some ⟨b26, 0, none⟩)] (nog rfl _) rfl (by kernel_rfl) (by kernel_rfl) ?_
   refine (Go.Sy.bld_string Tryd.lays169 Tryd.lays169X hM51 hzB hvpyb26).mono ?_; rintro _ wd102 ⟨rfl, hm⟩; refine ⟨_, rfl, ?_⟩; intro a103 hF104; have hM105 := hm; clear hm hM51 hF55
   have hM106 : Mem w.heap.size [] w Z [] Z wd102 := hM105; clear hM105
   refine s1 hF104 2 (str yb26) ?_; intro a107 hF108; clear hF104
   refine s1 hF108 3 (.int .i64 0) ?_; intro a109 hF110; clear hF108
   refine nlH (hQ101 _ _ ?_); clear hQ101 hQ101Q
   refine wp_ret ?_
   refine rt (fn := Tryd.f49) (v := .tuple #[str yb26, .int .i64 0]) hF110 (re2 hF110 (fn := Tryd.f49) rfl (by kernel_rfl) (by kernel_rfl)) ?_
   exact ⟨(yb26, 0), rfl, hp100, hM106.below⟩

set_option maxRecDepth 100000 in
set_option maxHeartbeats 0 in
theorem csum_walk (u0 : Int) (u1 : List UInt8)  (Z : Fz) (w : World)  (hZ : Z.on w) {K : ((List UInt8) × Int) → Prop} (hp : csum_vc u0 u1 K) : Calls Tryd.prog 11 #[.int .i64 u0, str u1] w fun e w' => ∃ r : (List UInt8) × Int, e = .returned (.tuple #[str r.1, .int .i64 r.2]) ∧ K r ∧ Below w.heap.size w w' := by
 refine enter0 Tryd.func11 rfl rfl (by kernel_rfl) ?_; intro a0 hF0; have hM0 := Mem.start w Z hZ; have hle0 := Fz.le.refl Z
 refine sqH ?_; intro hQ1Q hQ1
 refine s1 hF0 4 (str []) ?_; intro a2 hF3; clear hF0
 refine s1 hF3 5 (.int .i64 0) ?_; intro a4 hF5; clear hF3
 refine nlH (hQ1 _ _ ?_); clear hQ1 hQ1Q
 refine wp_seq ?_
 refine sqH ?_; intro hQ6Q hQ6
 refine s1 hF5 8 (str u1) ?_; intro a7 hF8; clear hF5
 refine fcl hF8 hM0 (.int .i64 (bcheckS u1)) 15 #[str u1] (nog rfl _) rfl (by kernel_rfl) (fun _ => by kernel_rfl) (bcheck_fun u1 _ _ hM0.fz) ?_; intro a9 wd11 hF10 hM12; clear hF8 hM0
 refine s1 hF10 6 (.int .i64 (bcheckS u1)) ?_; intro a13 hF14; clear hF10
 refine nlH (hQ6 _ _ ?_); clear hQ6 hQ6Q
 refine sqH ?_; intro hQ15Q hQ15
 refine s1 hF14 10 (.int .i64 (bcheckS u1)) ?_; intro a16 hF17; clear hF14
 refine s1 hF17 11 (.bool ((bcheckS u1) != 0)) ?_; intro a18 hF19; clear hF17
 refine nlH (hQ15 _ _ ?_); clear hQ15 hQ15Q
 refine cd hF19 (t := (bcheckS u1) != 0) (by kernel_rfl) (fun hb20 => ?_) (fun hb20 => ?_)
 · -- yes
  have hp21 := hp.1 hb20; clear hp
  refine sqH ?_; intro hQ22Q hQ22
  refine s1 hF19 12 (.int .i64 (bcheckS u1)) ?_; intro a23 hF24; clear hF19
  refine s1 hF24 4 (str []) ?_; intro a25 hF26; clear hF24
  refine s1 hF26 5 (.int .i64 (bcheckS u1)) ?_; intro a27 hF28; clear hF26
  refine nlH (hQ22 _ _ ?_); clear hQ22 hQ22Q
  refine wp_ret ?_
  refine thr ?_
  refine rt (fn := Tryd.f11) (v := .tuple #[str [], .int .i64 (bcheckS u1)]) hF28 (re2 hF28 (fn := Tryd.f11) rfl (by kernel_rfl) (by kernel_rfl)) ?_
  exact ⟨([], (bcheckS u1)), rfl, hp21, hM12.below⟩
 · -- no
  have hp29 := hp.2 hb20; clear hp
  refine wp_skip ?_
  refine thn ?_
  refine wp_seq ?_
  refine sqH ?_; intro hQ30Q hQ30
  refine s1 hF19 13 (.int .i64 u0) ?_; intro a31 hF32; clear hF19
  refine s1 hF32 14 (.bool (decide (u0 < 0))) ?_; intro a33 hF34; clear hF32
  refine s1 hF34 15 (.bool (decide (u0 < 0))) ?_; intro a35 hF36; clear hF34
  have hF37 := hF36.atom ((decide (u0 < 0)) == false) (by kernel_rfl); clear hF36
  refine gp hF37 16 0 [] (decide (u0 < 0)) (.int .i64 u0) rfl rfl ?_; intro a38 hF39; clear hF37
  refine gcl hF39 hM12 (.agg #[.int .i64 ckinds.1.Size, .int .u64 ckinds.1.Poly, .int .u64 ckinds.1.From, .int .u64 ckinds.1.End, .int .i64 ckinds.2.1.Size, .int .u64 ckinds.2.1.Poly, .int .u64 ckinds.2.1.From, .int .u64 ckinds.2.1.End, .int .i64 ckinds.2.2.1.Size, .int .u64 ckinds.2.2.1.Poly, .int .u64 ckinds.2.2.1.From, .int .u64 ckinds.2.2.1.End, .int .i64 ckinds.2.2.2.1.Size, .int .u64 ckinds.2.2.2.1.Poly, .int .u64 ckinds.2.2.2.1.From, .int .u64 ckinds.2.2.2.1.End, .int .i64 ckinds.2.2.2.2.Size, .int .u64 ckinds.2.2.2.2.Poly, .int .u64 ckinds.2.2.2.2.From, .int .u64 ckinds.2.2.2.2.End]) 46 #[] (m := 0) (cj := []) (bj := decide (u0 < 0)) rfl rfl (by kernel_rfl) rfl (by kernel_rfl) (by kernel_rfl) (by kernel_rfl) (fun _ => by kernel_rfl) (fun hg => ckinds_fun  _ _ hM12.fz) ?_; intro a40 wd42 hF41 hM43; clear hF39 hM12
  refine gp hF41 18 0 [] (decide (u0 < 0)) (.int .i64 5) rfl rfl ?_; intro a44 hF45; clear hF41
  refine gp hF45 19 0 [] (decide (u0 < 0)) (.bool (decide (u0 ≥ 5))) rfl rfl ?_; intro a46 hF47; clear hF45
  refine st hF47 (.bool ((decide (u0 < 0)) || (decide (u0 ≥ 5)))) (nog rfl _) rfl (by kernel_rfl) (pk_or hF47 (g := []) (m := 0) (b := decide (u0 < 0)) (v := decide (u0 ≥ 5)) rfl (by kernel_rfl) (by kernel_rfl) (by kernel_rfl) rfl) ?_; intro a48 hF49; clear hF47
  refine nlH (hQ30 _ _ ?_); clear hQ30 hQ30Q
  refine cd hF49 (t := (decide (u0 < 0)) || (decide (u0 ≥ 5))) (by kernel_rfl) (fun hb50 => ?_) (fun hb50 => ?_)
  · -- yes
   have hp51 := hp29.1 hb50; clear hp29
   have hF52 : Fr 30 [] [] a48 := hF49.region (by kernel_rfl) (by kernel_rfl); clear hF49
   refine sqH ?_; intro hQ53Q hQ53
   refine s1 hF52 4 (str []) ?_; intro a54 hF55; clear hF52
   refine s1 hF55 5 (.int .i64 8) ?_; intro a56 hF57; clear hF55
   refine nlH (hQ53 _ _ ?_); clear hQ53 hQ53Q
   refine wp_ret ?_
   refine thr ?_
   refine rt (fn := Tryd.f11) (v := .tuple #[str [], .int .i64 8]) hF57 (re2 hF57 (fn := Tryd.f11) rfl (by kernel_rfl) (by kernel_rfl)) ?_
   exact ⟨([], 8), rfl, hp51, hM43.below⟩
  · -- no
   have hp58 := hp29.2 hb50; clear hp29
   refine wp_skip ?_
   refine thn ?_
   have hF59 : Fr 30 [] [⟨0, [], .int .i64 u0⟩, ⟨1, [], str u1⟩] a48 := hF49.region (by kernel_rfl) (by kernel_rfl); clear hF49
   refine sqH ?_; intro hQ60Q hQ60
   refine fcl hF59 hM43 (.agg #[.int .i64 ckinds.1.Size, .int .u64 ckinds.1.Poly, .int .u64 ckinds.1.From, .int .u64 ckinds.1.End, .int .i64 ckinds.2.1.Size, .int .u64 ckinds.2.1.Poly, .int .u64 ckinds.2.1.From, .int .u64 ckinds.2.1.End, .int .i64 ckinds.2.2.1.Size, .int .u64 ckinds.2.2.1.Poly, .int .u64 ckinds.2.2.1.From, .int .u64 ckinds.2.2.1.End, .int .i64 ckinds.2.2.2.1.Size, .int .u64 ckinds.2.2.2.1.Poly, .int .u64 ckinds.2.2.2.1.From, .int .u64 ckinds.2.2.2.1.End, .int .i64 ckinds.2.2.2.2.Size, .int .u64 ckinds.2.2.2.2.Poly, .int .u64 ckinds.2.2.2.2.From, .int .u64 ckinds.2.2.2.2.End]) 46 #[] (nog rfl _) rfl (by kernel_rfl) (fun _ => by kernel_rfl) (ckinds_fun  _ _ hM43.fz) ?_; intro a61 wd63 hF62 hM64; clear hF59 hM43
   refine s1 hF62 22 (.int .i64 u0) ?_; intro a65 hF66; clear hF62
   have hc67 := hp58.1; have hp68 := hp58.2; clear hp58
   have hix : ∀ x : Int, 0 ≤ x ∧ x < 5 → x = 0 ∨ x = 1 ∨ x = 2 ∨ x = 3 ∨ x = 4 := by intro x hx; omega
   refine st hF66 (.agg #[.int .i64 (([ckinds.1.Size, ckinds.2.1.Size, ckinds.2.2.1.Size, ckinds.2.2.2.1.Size, ckinds.2.2.2.2.Size] : List Int).getD u0.toNat 0), .int .u64 (([ckinds.1.Poly, ckinds.2.1.Poly, ckinds.2.2.1.Poly, ckinds.2.2.2.1.Poly, ckinds.2.2.2.2.Poly] : List Int).getD u0.toNat 0), .int .u64 (([ckinds.1.From, ckinds.2.1.From, ckinds.2.2.1.From, ckinds.2.2.2.1.From, ckinds.2.2.2.2.From] : List Int).getD u0.toNat 0), .int .u64 (([ckinds.1.End, ckinds.2.1.End, ckinds.2.2.1.End, ckinds.2.2.2.1.End, ckinds.2.2.2.2.End] : List Int).getD u0.toNat 0)]) (nog rfl _) rfl (by kernel_rfl) ((by generalize u0 = ix at *; rcases hix _ hc67 with rfl | rfl | rfl | rfl | rfl <;> exact p0 hF66 (by kernel_rfl))) ?_; intro a69 hF70; clear hF66
   refine sn hF70 hM64 (fun b => .pointer (some ⟨b, 0, none⟩)) [.int .i64 0, .int .u64 0, .int .u64 0, .int .u64 0] 75 (nog rfl _) rfl (by kernel_rfl) (by kernel_rfl) ?_; intro b71 a72 wd74 hF73 hM75; clear hF70 hM64
   refine sr hF73 hM75 0 [.int .i64 (([ckinds.1.Size, ckinds.2.1.Size, ckinds.2.2.1.Size, ckinds.2.2.2.1.Size, ckinds.2.2.2.2.Size] : List Int).getD u0.toNat 0), .int .u64 (([ckinds.1.Poly, ckinds.2.1.Poly, ckinds.2.2.1.Poly, ckinds.2.2.2.1.Poly, ckinds.2.2.2.2.Poly] : List Int).getD u0.toNat 0), .int .u64 (([ckinds.1.From, ckinds.2.1.From, ckinds.2.2.1.From, ckinds.2.2.2.1.From, ckinds.2.2.2.2.From] : List Int).getD u0.toNat 0), .int .u64 (([ckinds.1.End, ckinds.2.1.End, ckinds.2.2.1.End, ckinds.2.2.2.1.End, ckinds.2.2.2.2.End] : List Int).getD u0.toNat 0)] (b := b71) (off := 0) (cs := [.int .i64 0, .int .u64 0, .int .u64 0, .int .u64 0]) (ty := 75) (u := .agg #[.int .i64 (([ckinds.1.Size, ckinds.2.1.Size, ckinds.2.2.1.Size, ckinds.2.2.2.1.Size, ckinds.2.2.2.2.Size] : List Int).getD u0.toNat 0), .int .u64 (([ckinds.1.Poly, ckinds.2.1.Poly, ckinds.2.2.1.Poly, ckinds.2.2.2.1.Poly, ckinds.2.2.2.2.Poly] : List Int).getD u0.toNat 0), .int .u64 (([ckinds.1.From, ckinds.2.1.From, ckinds.2.2.1.From, ckinds.2.2.2.1.From, ckinds.2.2.2.2.From] : List Int).getD u0.toNat 0), .int .u64 (([ckinds.1.End, ckinds.2.1.End, ckinds.2.2.1.End, ckinds.2.2.2.1.End, ckinds.2.2.2.2.End] : List Int).getD u0.toNat 0)]) (nog rfl _) rfl rfl (by kernel_rfl) (by kernel_rfl) (by kernel_rfl) (by kernel_rfl) (by kernel_rfl) (by kernel_rfl) (by kernel_rfl) ?_; intro wd76 hM77; clear hM75
   have hM78 : Mem w.heap.size [] w Z [.row b71 [.int .i64 (([ckinds.1.Size, ckinds.2.1.Size, ckinds.2.2.1.Size, ckinds.2.2.2.1.Size, ckinds.2.2.2.2.Size] : List Int).getD u0.toNat 0), .int .u64 (([ckinds.1.Poly, ckinds.2.1.Poly, ckinds.2.2.1.Poly, ckinds.2.2.2.1.Poly, ckinds.2.2.2.2.Poly] : List Int).getD u0.toNat 0), .int .u64 (([ckinds.1.From, ckinds.2.1.From, ckinds.2.2.1.From, ckinds.2.2.2.1.From, ckinds.2.2.2.2.From] : List Int).getD u0.toNat 0), .int .u64 (([ckinds.1.End, ckinds.2.1.End, ckinds.2.2.1.End, ckinds.2.2.2.1.End, ckinds.2.2.2.2.End] : List Int).getD u0.toNat 0)] 75] Z wd76 := hM77; clear hM77
   refine nlH (hQ60 _ _ ?_); clear hQ60 hQ60Q
   have hF79 : Fr 30 [] [⟨1, [], str u1⟩, ⟨7, [], .pointer (some ⟨b71, 0, none⟩)⟩] a72 := hF73.region (by kernel_rfl) (by kernel_rfl); clear hF73
   refine sqQH mixed (by kernel_rfl) hM78 ?_; intro hQ80Q hQ80
   refine qst hF79 (.agg #[.int .i64 (([ckinds.1.Size, ckinds.2.1.Size, ckinds.2.2.1.Size, ckinds.2.2.2.1.Size, ckinds.2.2.2.2.Size] : List Int).getD u0.toNat 0), .int .u64 (([ckinds.1.Poly, ckinds.2.1.Poly, ckinds.2.2.1.Poly, ckinds.2.2.2.1.Poly, ckinds.2.2.2.2.Poly] : List Int).getD u0.toNat 0), .int .u64 (([ckinds.1.From, ckinds.2.1.From, ckinds.2.2.1.From, ckinds.2.2.2.1.From, ckinds.2.2.2.2.From] : List Int).getD u0.toNat 0), .int .u64 (([ckinds.1.End, ckinds.2.1.End, ckinds.2.2.1.End, ckinds.2.2.2.1.End, ckinds.2.2.2.2.End] : List Int).getD u0.toNat 0)]) (nog rfl _) rfl (by kernel_rfl) (fun v81 hC => lda hF79 hC 0 (g := []) (b := b71) (off := 0) (k := 4) (cs := [.int .i64 (([ckinds.1.Size, ckinds.2.1.Size, ckinds.2.2.1.Size, ckinds.2.2.2.1.Size, ckinds.2.2.2.2.Size] : List Int).getD u0.toNat 0), .int .u64 (([ckinds.1.Poly, ckinds.2.1.Poly, ckinds.2.2.1.Poly, ckinds.2.2.2.1.Poly, ckinds.2.2.2.2.Poly] : List Int).getD u0.toNat 0), .int .u64 (([ckinds.1.From, ckinds.2.1.From, ckinds.2.2.1.From, ckinds.2.2.2.1.From, ckinds.2.2.2.2.From] : List Int).getD u0.toNat 0), .int .u64 (([ckinds.1.End, ckinds.2.1.End, ckinds.2.2.1.End, ckinds.2.2.2.1.End, ckinds.2.2.2.2.End] : List Int).getD u0.toNat 0)]) (vs := [.int .i64 (([ckinds.1.Size, ckinds.2.1.Size, ckinds.2.2.1.Size, ckinds.2.2.2.1.Size, ckinds.2.2.2.2.Size] : List Int).getD u0.toNat 0), .int .u64 (([ckinds.1.Poly, ckinds.2.1.Poly, ckinds.2.2.1.Poly, ckinds.2.2.2.1.Poly, ckinds.2.2.2.2.Poly] : List Int).getD u0.toNat 0), .int .u64 (([ckinds.1.From, ckinds.2.1.From, ckinds.2.2.1.From, ckinds.2.2.2.1.From, ckinds.2.2.2.2.From] : List Int).getD u0.toNat 0), .int .u64 (([ckinds.1.End, ckinds.2.1.End, ckinds.2.2.1.End, ckinds.2.2.2.1.End, ckinds.2.2.2.2.End] : List Int).getD u0.toNat 0)]) (ty := 75) rfl (by kernel_rfl) (by kernel_rfl) (by kernel_rfl) (by kernel_rfl) (by kernel_rfl) rfl) ?_; intro a82 hF83; clear hF79
   refine q1 hF83 25 (str u1) ?_; intro a85 hF86; clear hF83
   have hc88 := hp68.1; have hp89 := hp68.2; clear hp68
   refine qcl hF86 (.int .u64 (ksumS (⟨([ckinds.1.Size, ckinds.2.1.Size, ckinds.2.2.1.Size, ckinds.2.2.2.1.Size, ckinds.2.2.2.2.Size] : List Int).getD u0.toNat 0, ([ckinds.1.Poly, ckinds.2.1.Poly, ckinds.2.2.1.Poly, ckinds.2.2.2.1.Poly, ckinds.2.2.2.2.Poly] : List Int).getD u0.toNat 0, ([ckinds.1.From, ckinds.2.1.From, ckinds.2.2.1.From, ckinds.2.2.2.1.From, ckinds.2.2.2.2.From] : List Int).getD u0.toNat 0, ([ckinds.1.End, ckinds.2.1.End, ckinds.2.2.1.End, ckinds.2.2.2.1.End, ckinds.2.2.2.2.End] : List Int).getD u0.toNat 0⟩ : Kind) u1)) 48 #[.agg #[.int .i64 (([ckinds.1.Size, ckinds.2.1.Size, ckinds.2.2.1.Size, ckinds.2.2.2.1.Size, ckinds.2.2.2.2.Size] : List Int).getD u0.toNat 0), .int .u64 (([ckinds.1.Poly, ckinds.2.1.Poly, ckinds.2.2.1.Poly, ckinds.2.2.2.1.Poly, ckinds.2.2.2.2.Poly] : List Int).getD u0.toNat 0), .int .u64 (([ckinds.1.From, ckinds.2.1.From, ckinds.2.2.1.From, ckinds.2.2.2.1.From, ckinds.2.2.2.2.From] : List Int).getD u0.toNat 0), .int .u64 (([ckinds.1.End, ckinds.2.1.End, ckinds.2.2.1.End, ckinds.2.2.2.1.End, ckinds.2.2.2.2.End] : List Int).getD u0.toNat 0)], str u1] (nog rfl _) rfl (by kernel_rfl) (fun _ => by kernel_rfl) (qfc fun w hC => ksum_fun (⟨([ckinds.1.Size, ckinds.2.1.Size, ckinds.2.2.1.Size, ckinds.2.2.2.1.Size, ckinds.2.2.2.2.Size] : List Int).getD u0.toNat 0, ([ckinds.1.Poly, ckinds.2.1.Poly, ckinds.2.2.1.Poly, ckinds.2.2.2.1.Poly, ckinds.2.2.2.2.Poly] : List Int).getD u0.toNat 0, ([ckinds.1.From, ckinds.2.1.From, ckinds.2.2.1.From, ckinds.2.2.2.1.From, ckinds.2.2.2.2.From] : List Int).getD u0.toNat 0, ([ckinds.1.End, ckinds.2.1.End, ckinds.2.2.1.End, ckinds.2.2.2.1.End, ckinds.2.2.2.2.End] : List Int).getD u0.toNat 0⟩ : Kind) u1 hc88 _ _ hC.fz) ?_; intro a90 hF91; clear hF86
   refine q1 hF91 27 (.pointer (some ⟨b71, 0, none⟩)) ?_; intro a93 hF94; clear hF91
   refine qst hF94 (.int .i64 (([ckinds.1.Size, ckinds.2.1.Size, ckinds.2.2.1.Size, ckinds.2.2.2.1.Size, ckinds.2.2.2.2.Size] : List Int).getD u0.toNat 0)) (nog rfl _) rfl (by kernel_rfl) (fun v95 hC => ld hF94 hC 0 (g := []) (b := b71) (off := 0) (cs := [.int .i64 (([ckinds.1.Size, ckinds.2.1.Size, ckinds.2.2.1.Size, ckinds.2.2.2.1.Size, ckinds.2.2.2.2.Size] : List Int).getD u0.toNat 0), .int .u64 (([ckinds.1.Poly, ckinds.2.1.Poly, ckinds.2.2.1.Poly, ckinds.2.2.2.1.Poly, ckinds.2.2.2.2.Poly] : List Int).getD u0.toNat 0), .int .u64 (([ckinds.1.From, ckinds.2.1.From, ckinds.2.2.1.From, ckinds.2.2.2.1.From, ckinds.2.2.2.2.From] : List Int).getD u0.toNat 0), .int .u64 (([ckinds.1.End, ckinds.2.1.End, ckinds.2.2.1.End, ckinds.2.2.2.1.End, ckinds.2.2.2.2.End] : List Int).getD u0.toNat 0)]) (ty := 75) rfl (by kernel_rfl) (by kernel_rfl) (by kernel_rfl) (by kernel_rfl) rfl) ?_; intro a96 hF97; clear hF94
   have hc99 := hp89.1; have hp100 := hp89.2; clear hp89
   refine qcl hF97 (str (bwriteS (ksumS (⟨([ckinds.1.Size, ckinds.2.1.Size, ckinds.2.2.1.Size, ckinds.2.2.2.1.Size, ckinds.2.2.2.2.Size] : List Int).getD u0.toNat 0, ([ckinds.1.Poly, ckinds.2.1.Poly, ckinds.2.2.1.Poly, ckinds.2.2.2.1.Poly, ckinds.2.2.2.2.Poly] : List Int).getD u0.toNat 0, ([ckinds.1.From, ckinds.2.1.From, ckinds.2.2.1.From, ckinds.2.2.2.1.From, ckinds.2.2.2.2.From] : List Int).getD u0.toNat 0, ([ckinds.1.End, ckinds.2.1.End, ckinds.2.2.1.End, ckinds.2.2.2.1.End, ckinds.2.2.2.2.End] : List Int).getD u0.toNat 0⟩ : Kind) u1) (([ckinds.1.Size, ckinds.2.1.Size, ckinds.2.2.1.Size, ckinds.2.2.2.1.Size, ckinds.2.2.2.2.Size] : List Int).getD u0.toNat 0))) 47 #[.int .u64 (ksumS (⟨([ckinds.1.Size, ckinds.2.1.Size, ckinds.2.2.1.Size, ckinds.2.2.2.1.Size, ckinds.2.2.2.2.Size] : List Int).getD u0.toNat 0, ([ckinds.1.Poly, ckinds.2.1.Poly, ckinds.2.2.1.Poly, ckinds.2.2.2.1.Poly, ckinds.2.2.2.2.Poly] : List Int).getD u0.toNat 0, ([ckinds.1.From, ckinds.2.1.From, ckinds.2.2.1.From, ckinds.2.2.2.1.From, ckinds.2.2.2.2.From] : List Int).getD u0.toNat 0, ([ckinds.1.End, ckinds.2.1.End, ckinds.2.2.1.End, ckinds.2.2.2.1.End, ckinds.2.2.2.2.End] : List Int).getD u0.toNat 0⟩ : Kind) u1), .int .i64 (([ckinds.1.Size, ckinds.2.1.Size, ckinds.2.2.1.Size, ckinds.2.2.2.1.Size, ckinds.2.2.2.2.Size] : List Int).getD u0.toNat 0)] (nog rfl _) rfl (by kernel_rfl) (fun _ => by kernel_rfl) (qfc fun w hC => bwrite_fun (ksumS (⟨([ckinds.1.Size, ckinds.2.1.Size, ckinds.2.2.1.Size, ckinds.2.2.2.1.Size, ckinds.2.2.2.2.Size] : List Int).getD u0.toNat 0, ([ckinds.1.Poly, ckinds.2.1.Poly, ckinds.2.2.1.Poly, ckinds.2.2.2.1.Poly, ckinds.2.2.2.2.Poly] : List Int).getD u0.toNat 0, ([ckinds.1.From, ckinds.2.1.From, ckinds.2.2.1.From, ckinds.2.2.2.1.From, ckinds.2.2.2.2.From] : List Int).getD u0.toNat 0, ([ckinds.1.End, ckinds.2.1.End, ckinds.2.2.1.End, ckinds.2.2.2.1.End, ckinds.2.2.2.2.End] : List Int).getD u0.toNat 0⟩ : Kind) u1) (([ckinds.1.Size, ckinds.2.1.Size, ckinds.2.2.1.Size, ckinds.2.2.2.1.Size, ckinds.2.2.2.2.Size] : List Int).getD u0.toNat 0) hc99 _ _ hC.fz) ?_; intro a101 hF102; clear hF97
   refine q1 hF102 4 (str (bwriteS (ksumS (⟨([ckinds.1.Size, ckinds.2.1.Size, ckinds.2.2.1.Size, ckinds.2.2.2.1.Size, ckinds.2.2.2.2.Size] : List Int).getD u0.toNat 0, ([ckinds.1.Poly, ckinds.2.1.Poly, ckinds.2.2.1.Poly, ckinds.2.2.2.1.Poly, ckinds.2.2.2.2.Poly] : List Int).getD u0.toNat 0, ([ckinds.1.From, ckinds.2.1.From, ckinds.2.2.1.From, ckinds.2.2.2.1.From, ckinds.2.2.2.2.From] : List Int).getD u0.toNat 0, ([ckinds.1.End, ckinds.2.1.End, ckinds.2.2.1.End, ckinds.2.2.2.1.End, ckinds.2.2.2.2.End] : List Int).getD u0.toNat 0⟩ : Kind) u1) (([ckinds.1.Size, ckinds.2.1.Size, ckinds.2.2.1.Size, ckinds.2.2.2.1.Size, ckinds.2.2.2.2.Size] : List Int).getD u0.toNat 0))) ?_; intro a104 hF105; clear hF102
   refine q1 hF105 5 (.int .i64 0) ?_; intro a107 hF108; clear hF105
   refine qnl (hQ80 _ ?_); clear hQ80 hQ80Q; intro wd109 hM110; clear hM78
   refine wp_ret ?_
   refine rt (fn := Tryd.f11) (v := .tuple #[str (bwriteS (ksumS (⟨([ckinds.1.Size, ckinds.2.1.Size, ckinds.2.2.1.Size, ckinds.2.2.2.1.Size, ckinds.2.2.2.2.Size] : List Int).getD u0.toNat 0, ([ckinds.1.Poly, ckinds.2.1.Poly, ckinds.2.2.1.Poly, ckinds.2.2.2.1.Poly, ckinds.2.2.2.2.Poly] : List Int).getD u0.toNat 0, ([ckinds.1.From, ckinds.2.1.From, ckinds.2.2.1.From, ckinds.2.2.2.1.From, ckinds.2.2.2.2.From] : List Int).getD u0.toNat 0, ([ckinds.1.End, ckinds.2.1.End, ckinds.2.2.1.End, ckinds.2.2.2.1.End, ckinds.2.2.2.2.End] : List Int).getD u0.toNat 0⟩ : Kind) u1) (([ckinds.1.Size, ckinds.2.1.Size, ckinds.2.2.1.Size, ckinds.2.2.2.1.Size, ckinds.2.2.2.2.Size] : List Int).getD u0.toNat 0)), .int .i64 0]) hF108 (re2 hF108 (fn := Tryd.f11) rfl (by kernel_rfl) (by kernel_rfl)) ?_
   exact ⟨((bwriteS (ksumS (⟨([ckinds.1.Size, ckinds.2.1.Size, ckinds.2.2.1.Size, ckinds.2.2.2.1.Size, ckinds.2.2.2.2.Size] : List Int).getD u0.toNat 0, ([ckinds.1.Poly, ckinds.2.1.Poly, ckinds.2.2.1.Poly, ckinds.2.2.2.1.Poly, ckinds.2.2.2.2.Poly] : List Int).getD u0.toNat 0, ([ckinds.1.From, ckinds.2.1.From, ckinds.2.2.1.From, ckinds.2.2.2.1.From, ckinds.2.2.2.2.From] : List Int).getD u0.toNat 0, ([ckinds.1.End, ckinds.2.1.End, ckinds.2.2.1.End, ckinds.2.2.2.1.End, ckinds.2.2.2.2.End] : List Int).getD u0.toNat 0⟩ : Kind) u1) (([ckinds.1.Size, ckinds.2.1.Size, ckinds.2.2.1.Size, ckinds.2.2.2.1.Size, ckinds.2.2.2.2.Size] : List Int).getD u0.toNat 0)), 0), rfl, hp100, hM110.below⟩

set_option maxRecDepth 100000 in
set_option maxHeartbeats 0 in
theorem cholds_walk (u0 : Int) (u1 : List UInt8)  (Z : Fz) (w : World)  (hZ : Z.on w) {K : (Bool × Int) → Prop} (hp : cholds_vc u0 u1 K) : Calls Tryd.prog 17 #[.int .i64 u0, str u1] w fun e w' => ∃ r : Bool × Int, e = .returned (.tuple #[.bool r.1, .int .i64 r.2]) ∧ K r ∧ Below w.heap.size w w' := by
 refine enter0 Tryd.func17 rfl rfl (by kernel_rfl) ?_; intro a0 hF0; have hM0 := Mem.start w Z hZ; have hle0 := Fz.le.refl Z
 refine sqH ?_; intro hQ1Q hQ1
 refine s1 hF0 4 (.bool false) ?_; intro a2 hF3; clear hF0
 refine s1 hF3 5 (.int .i64 0) ?_; intro a4 hF5; clear hF3
 refine nlH (hQ1 _ _ ?_); clear hQ1 hQ1Q
 refine wp_seq ?_
 refine sqH ?_; intro hQ6Q hQ6
 refine s1 hF5 9 (str u1) ?_; intro a7 hF8; clear hF5
 refine fcl hF8 hM0 (.int .i64 (bcheckS u1)) 15 #[str u1] (nog rfl _) rfl (by kernel_rfl) (fun _ => by kernel_rfl) (bcheck_fun u1 _ _ hM0.fz) ?_; intro a9 wd11 hF10 hM12; clear hF8 hM0
 refine s1 hF10 6 (.int .i64 (bcheckS u1)) ?_; intro a13 hF14; clear hF10
 refine nlH (hQ6 _ _ ?_); clear hQ6 hQ6Q
 refine sqH ?_; intro hQ15Q hQ15
 refine s1 hF14 11 (.int .i64 (bcheckS u1)) ?_; intro a16 hF17; clear hF14
 refine s1 hF17 12 (.bool ((bcheckS u1) != 0)) ?_; intro a18 hF19; clear hF17
 refine nlH (hQ15 _ _ ?_); clear hQ15 hQ15Q
 refine cd hF19 (t := (bcheckS u1) != 0) (by kernel_rfl) (fun hb20 => ?_) (fun hb20 => ?_)
 · -- yes
  have hp21 := hp.1 hb20; clear hp
  refine sqH ?_; intro hQ22Q hQ22
  refine s1 hF19 13 (.int .i64 (bcheckS u1)) ?_; intro a23 hF24; clear hF19
  refine s1 hF24 4 (.bool false) ?_; intro a25 hF26; clear hF24
  refine s1 hF26 5 (.int .i64 (bcheckS u1)) ?_; intro a27 hF28; clear hF26
  refine nlH (hQ22 _ _ ?_); clear hQ22 hQ22Q
  refine wp_ret ?_
  refine thr ?_
  refine rt (fn := Tryd.f17) (v := .tuple #[.bool false, .int .i64 (bcheckS u1)]) hF28 (re2 hF28 (fn := Tryd.f17) rfl (by kernel_rfl) (by kernel_rfl)) ?_
  exact ⟨(false, (bcheckS u1)), rfl, hp21, hM12.below⟩
 · -- no
  have hp29 := hp.2 hb20; clear hp
  refine wp_skip ?_
  refine thn ?_
  refine wp_seq ?_
  refine sqH ?_; intro hQ30Q hQ30
  refine s1 hF19 14 (.int .i64 u0) ?_; intro a31 hF32; clear hF19
  refine s1 hF32 15 (.bool (decide (u0 < 0))) ?_; intro a33 hF34; clear hF32
  refine s1 hF34 16 (.bool (decide (u0 < 0))) ?_; intro a35 hF36; clear hF34
  have hF37 := hF36.atom ((decide (u0 < 0)) == false) (by kernel_rfl); clear hF36
  refine gp hF37 17 0 [] (decide (u0 < 0)) (.int .i64 u0) rfl rfl ?_; intro a38 hF39; clear hF37
  refine gcl hF39 hM12 (.agg #[.int .i64 ckinds.1.Size, .int .u64 ckinds.1.Poly, .int .u64 ckinds.1.From, .int .u64 ckinds.1.End, .int .i64 ckinds.2.1.Size, .int .u64 ckinds.2.1.Poly, .int .u64 ckinds.2.1.From, .int .u64 ckinds.2.1.End, .int .i64 ckinds.2.2.1.Size, .int .u64 ckinds.2.2.1.Poly, .int .u64 ckinds.2.2.1.From, .int .u64 ckinds.2.2.1.End, .int .i64 ckinds.2.2.2.1.Size, .int .u64 ckinds.2.2.2.1.Poly, .int .u64 ckinds.2.2.2.1.From, .int .u64 ckinds.2.2.2.1.End, .int .i64 ckinds.2.2.2.2.Size, .int .u64 ckinds.2.2.2.2.Poly, .int .u64 ckinds.2.2.2.2.From, .int .u64 ckinds.2.2.2.2.End]) 46 #[] (m := 0) (cj := []) (bj := decide (u0 < 0)) rfl rfl (by kernel_rfl) rfl (by kernel_rfl) (by kernel_rfl) (by kernel_rfl) (fun _ => by kernel_rfl) (fun hg => ckinds_fun  _ _ hM12.fz) ?_; intro a40 wd42 hF41 hM43; clear hF39 hM12
  refine gp hF41 19 0 [] (decide (u0 < 0)) (.int .i64 5) rfl rfl ?_; intro a44 hF45; clear hF41
  refine gp hF45 20 0 [] (decide (u0 < 0)) (.bool (decide (u0 ≥ 5))) rfl rfl ?_; intro a46 hF47; clear hF45
  refine st hF47 (.bool ((decide (u0 < 0)) || (decide (u0 ≥ 5)))) (nog rfl _) rfl (by kernel_rfl) (pk_or hF47 (g := []) (m := 0) (b := decide (u0 < 0)) (v := decide (u0 ≥ 5)) rfl (by kernel_rfl) (by kernel_rfl) (by kernel_rfl) rfl) ?_; intro a48 hF49; clear hF47
  refine nlH (hQ30 _ _ ?_); clear hQ30 hQ30Q
  refine cd hF49 (t := (decide (u0 < 0)) || (decide (u0 ≥ 5))) (by kernel_rfl) (fun hb50 => ?_) (fun hb50 => ?_)
  · -- yes
   have hp51 := hp29.1 hb50; clear hp29
   have hF52 : Fr 47 [] [] a48 := hF49.region (by kernel_rfl) (by kernel_rfl); clear hF49
   refine sqH ?_; intro hQ53Q hQ53
   refine s1 hF52 4 (.bool false) ?_; intro a54 hF55; clear hF52
   refine s1 hF55 5 (.int .i64 8) ?_; intro a56 hF57; clear hF55
   refine nlH (hQ53 _ _ ?_); clear hQ53 hQ53Q
   refine wp_ret ?_
   refine thr ?_
   refine rt (fn := Tryd.f17) (v := .tuple #[.bool false, .int .i64 8]) hF57 (re2 hF57 (fn := Tryd.f17) rfl (by kernel_rfl) (by kernel_rfl)) ?_
   exact ⟨(false, 8), rfl, hp51, hM43.below⟩
  · -- no
   have hp58 := hp29.2 hb50; clear hp29
   refine wp_skip ?_
   refine thn ?_
   have hF59 : Fr 47 [] [⟨0, [], .int .i64 u0⟩, ⟨1, [], str u1⟩] a48 := hF49.region (by kernel_rfl) (by kernel_rfl); clear hF49
   refine sqH ?_; intro hQ60Q hQ60
   refine fcl hF59 hM43 (.agg #[.int .i64 ckinds.1.Size, .int .u64 ckinds.1.Poly, .int .u64 ckinds.1.From, .int .u64 ckinds.1.End, .int .i64 ckinds.2.1.Size, .int .u64 ckinds.2.1.Poly, .int .u64 ckinds.2.1.From, .int .u64 ckinds.2.1.End, .int .i64 ckinds.2.2.1.Size, .int .u64 ckinds.2.2.1.Poly, .int .u64 ckinds.2.2.1.From, .int .u64 ckinds.2.2.1.End, .int .i64 ckinds.2.2.2.1.Size, .int .u64 ckinds.2.2.2.1.Poly, .int .u64 ckinds.2.2.2.1.From, .int .u64 ckinds.2.2.2.1.End, .int .i64 ckinds.2.2.2.2.Size, .int .u64 ckinds.2.2.2.2.Poly, .int .u64 ckinds.2.2.2.2.From, .int .u64 ckinds.2.2.2.2.End]) 46 #[] (nog rfl _) rfl (by kernel_rfl) (fun _ => by kernel_rfl) (ckinds_fun  _ _ hM43.fz) ?_; intro a61 wd63 hF62 hM64; clear hF59 hM43
   refine s1 hF62 23 (.int .i64 u0) ?_; intro a65 hF66; clear hF62
   have hc67 := hp58.1; have hp68 := hp58.2; clear hp58
   have hix : ∀ x : Int, 0 ≤ x ∧ x < 5 → x = 0 ∨ x = 1 ∨ x = 2 ∨ x = 3 ∨ x = 4 := by intro x hx; omega
   refine st hF66 (.agg #[.int .i64 (([ckinds.1.Size, ckinds.2.1.Size, ckinds.2.2.1.Size, ckinds.2.2.2.1.Size, ckinds.2.2.2.2.Size] : List Int).getD u0.toNat 0), .int .u64 (([ckinds.1.Poly, ckinds.2.1.Poly, ckinds.2.2.1.Poly, ckinds.2.2.2.1.Poly, ckinds.2.2.2.2.Poly] : List Int).getD u0.toNat 0), .int .u64 (([ckinds.1.From, ckinds.2.1.From, ckinds.2.2.1.From, ckinds.2.2.2.1.From, ckinds.2.2.2.2.From] : List Int).getD u0.toNat 0), .int .u64 (([ckinds.1.End, ckinds.2.1.End, ckinds.2.2.1.End, ckinds.2.2.2.1.End, ckinds.2.2.2.2.End] : List Int).getD u0.toNat 0)]) (nog rfl _) rfl (by kernel_rfl) ((by generalize u0 = ix at *; rcases hix _ hc67 with rfl | rfl | rfl | rfl | rfl <;> exact p0 hF66 (by kernel_rfl))) ?_; intro a69 hF70; clear hF66
   refine sn hF70 hM64 (fun b => .pointer (some ⟨b, 0, none⟩)) [.int .i64 0, .int .u64 0, .int .u64 0, .int .u64 0] 75 (nog rfl _) rfl (by kernel_rfl) (by kernel_rfl) ?_; intro b71 a72 wd74 hF73 hM75; clear hF70 hM64
   refine sr hF73 hM75 0 [.int .i64 (([ckinds.1.Size, ckinds.2.1.Size, ckinds.2.2.1.Size, ckinds.2.2.2.1.Size, ckinds.2.2.2.2.Size] : List Int).getD u0.toNat 0), .int .u64 (([ckinds.1.Poly, ckinds.2.1.Poly, ckinds.2.2.1.Poly, ckinds.2.2.2.1.Poly, ckinds.2.2.2.2.Poly] : List Int).getD u0.toNat 0), .int .u64 (([ckinds.1.From, ckinds.2.1.From, ckinds.2.2.1.From, ckinds.2.2.2.1.From, ckinds.2.2.2.2.From] : List Int).getD u0.toNat 0), .int .u64 (([ckinds.1.End, ckinds.2.1.End, ckinds.2.2.1.End, ckinds.2.2.2.1.End, ckinds.2.2.2.2.End] : List Int).getD u0.toNat 0)] (b := b71) (off := 0) (cs := [.int .i64 0, .int .u64 0, .int .u64 0, .int .u64 0]) (ty := 75) (u := .agg #[.int .i64 (([ckinds.1.Size, ckinds.2.1.Size, ckinds.2.2.1.Size, ckinds.2.2.2.1.Size, ckinds.2.2.2.2.Size] : List Int).getD u0.toNat 0), .int .u64 (([ckinds.1.Poly, ckinds.2.1.Poly, ckinds.2.2.1.Poly, ckinds.2.2.2.1.Poly, ckinds.2.2.2.2.Poly] : List Int).getD u0.toNat 0), .int .u64 (([ckinds.1.From, ckinds.2.1.From, ckinds.2.2.1.From, ckinds.2.2.2.1.From, ckinds.2.2.2.2.From] : List Int).getD u0.toNat 0), .int .u64 (([ckinds.1.End, ckinds.2.1.End, ckinds.2.2.1.End, ckinds.2.2.2.1.End, ckinds.2.2.2.2.End] : List Int).getD u0.toNat 0)]) (nog rfl _) rfl rfl (by kernel_rfl) (by kernel_rfl) (by kernel_rfl) (by kernel_rfl) (by kernel_rfl) (by kernel_rfl) (by kernel_rfl) ?_; intro wd76 hM77; clear hM75
   have hM78 : Mem w.heap.size [] w Z [.row b71 [.int .i64 (([ckinds.1.Size, ckinds.2.1.Size, ckinds.2.2.1.Size, ckinds.2.2.2.1.Size, ckinds.2.2.2.2.Size] : List Int).getD u0.toNat 0), .int .u64 (([ckinds.1.Poly, ckinds.2.1.Poly, ckinds.2.2.1.Poly, ckinds.2.2.2.1.Poly, ckinds.2.2.2.2.Poly] : List Int).getD u0.toNat 0), .int .u64 (([ckinds.1.From, ckinds.2.1.From, ckinds.2.2.1.From, ckinds.2.2.2.1.From, ckinds.2.2.2.2.From] : List Int).getD u0.toNat 0), .int .u64 (([ckinds.1.End, ckinds.2.1.End, ckinds.2.2.1.End, ckinds.2.2.2.1.End, ckinds.2.2.2.2.End] : List Int).getD u0.toNat 0)] 75] Z wd76 := hM77; clear hM77
   refine nlH (hQ60 _ _ ?_); clear hQ60 hQ60Q
   refine wp_seq ?_
   refine sqH ?_; intro hQ79Q hQ79
   refine s1 hF73 25 (str u1) ?_; intro a80 hF81; clear hF73
   refine s1 hF81 26 (.int .i64 (u1.length : Int)) ?_; intro a82 hF83; clear hF81
   refine s1 hF83 27 (.pointer (some ⟨b71, 0, none⟩)) ?_; intro a84 hF85; clear hF83
   refine l1 hF85 hM78 28 0 0 (.int .i64 (([ckinds.1.Size, ckinds.2.1.Size, ckinds.2.2.1.Size, ckinds.2.2.2.1.Size, ckinds.2.2.2.2.Size] : List Int).getD u0.toNat 0)) rfl rfl ?_; intro a86 hF87; clear hF85
   refine s1 hF87 29 (.bool (decide ((u1.length : Int) < (([ckinds.1.Size, ckinds.2.1.Size, ckinds.2.2.1.Size, ckinds.2.2.2.1.Size, ckinds.2.2.2.2.Size] : List Int).getD u0.toNat 0)))) ?_; intro a88 hF89; clear hF87
   refine nlH (hQ79 _ _ ?_); clear hQ79 hQ79Q
   refine cd hF89 (t := decide ((u1.length : Int) < (([ckinds.1.Size, ckinds.2.1.Size, ckinds.2.2.1.Size, ckinds.2.2.2.1.Size, ckinds.2.2.2.2.Size] : List Int).getD u0.toNat 0))) (by kernel_rfl) (fun hb90 => ?_) (fun hb90 => ?_)
   · -- yes
    have hp91 := hp68.1 hb90; clear hp68
    refine sqH ?_; intro hQ92Q hQ92
    refine s1 hF89 4 (.bool false) ?_; intro a93 hF94; clear hF89
    refine s1 hF94 5 (.int .i64 7) ?_; intro a95 hF96; clear hF94
    refine nlH (hQ92 _ _ ?_); clear hQ92 hQ92Q
    refine wp_ret ?_
    refine thr ?_
    refine rt (fn := Tryd.f17) (v := .tuple #[.bool false, .int .i64 7]) hF96 (re2 hF96 (fn := Tryd.f17) rfl (by kernel_rfl) (by kernel_rfl)) ?_
    exact ⟨(false, 7), rfl, hp91, hM78.below⟩
   · -- no
    have hp97 := hp68.2 hb90; clear hp68
    refine wp_skip ?_
    refine thn ?_
    refine sqH ?_; intro hQ98Q hQ98
    refine s1 hF89 30 (str u1) ?_; intro a99 hF100; clear hF89
    refine s1 hF100 31 (.int .i64 (u1.length : Int)) ?_; intro a101 hF102; clear hF100
    refine s1 hF102 32 (.pointer (some ⟨b71, 0, none⟩)) ?_; intro a103 hF104; clear hF102
    refine l1 hF104 hM78 33 0 0 (.int .i64 (([ckinds.1.Size, ckinds.2.1.Size, ckinds.2.2.1.Size, ckinds.2.2.2.1.Size, ckinds.2.2.2.2.Size] : List Int).getD u0.toNat 0)) rfl rfl ?_; intro a105 hF106; clear hF104
    refine s1 hF106 34 (.int .i64 (w64 ((u1.length : Int) - (([ckinds.1.Size, ckinds.2.1.Size, ckinds.2.2.1.Size, ckinds.2.2.2.1.Size, ckinds.2.2.2.2.Size] : List Int).getD u0.toNat 0)))) ?_; intro a107 hF108; clear hF106
    refine s1 hF108 8 (.int .i64 (w64 ((u1.length : Int) - (([ckinds.1.Size, ckinds.2.1.Size, ckinds.2.2.1.Size, ckinds.2.2.2.1.Size, ckinds.2.2.2.2.Size] : List Int).getD u0.toNat 0)))) ?_; intro a109 hF110; clear hF108
    refine nlH (hQ98 _ _ ?_); clear hQ98 hQ98Q
    have hF111 : Fr 47 [] [⟨1, [], str u1⟩, ⟨7, [], .pointer (some ⟨b71, 0, none⟩)⟩, ⟨8, [], .int .i64 (w64 ((u1.length : Int) - (([ckinds.1.Size, ckinds.2.1.Size, ckinds.2.2.1.Size, ckinds.2.2.2.1.Size, ckinds.2.2.2.2.Size] : List Int).getD u0.toNat 0)))⟩] a109 := hF110.region (by kernel_rfl) (by kernel_rfl); clear hF110
    refine sqQH mixed (by kernel_rfl) hM78 ?_; intro hQ112Q hQ112
    refine qst hF111 (.agg #[.int .i64 (([ckinds.1.Size, ckinds.2.1.Size, ckinds.2.2.1.Size, ckinds.2.2.2.1.Size, ckinds.2.2.2.2.Size] : List Int).getD u0.toNat 0), .int .u64 (([ckinds.1.Poly, ckinds.2.1.Poly, ckinds.2.2.1.Poly, ckinds.2.2.2.1.Poly, ckinds.2.2.2.2.Poly] : List Int).getD u0.toNat 0), .int .u64 (([ckinds.1.From, ckinds.2.1.From, ckinds.2.2.1.From, ckinds.2.2.2.1.From, ckinds.2.2.2.2.From] : List Int).getD u0.toNat 0), .int .u64 (([ckinds.1.End, ckinds.2.1.End, ckinds.2.2.1.End, ckinds.2.2.2.1.End, ckinds.2.2.2.2.End] : List Int).getD u0.toNat 0)]) (nog rfl _) rfl (by kernel_rfl) (fun v113 hC => lda hF111 hC 0 (g := []) (b := b71) (off := 0) (k := 4) (cs := [.int .i64 (([ckinds.1.Size, ckinds.2.1.Size, ckinds.2.2.1.Size, ckinds.2.2.2.1.Size, ckinds.2.2.2.2.Size] : List Int).getD u0.toNat 0), .int .u64 (([ckinds.1.Poly, ckinds.2.1.Poly, ckinds.2.2.1.Poly, ckinds.2.2.2.1.Poly, ckinds.2.2.2.2.Poly] : List Int).getD u0.toNat 0), .int .u64 (([ckinds.1.From, ckinds.2.1.From, ckinds.2.2.1.From, ckinds.2.2.2.1.From, ckinds.2.2.2.2.From] : List Int).getD u0.toNat 0), .int .u64 (([ckinds.1.End, ckinds.2.1.End, ckinds.2.2.1.End, ckinds.2.2.2.1.End, ckinds.2.2.2.2.End] : List Int).getD u0.toNat 0)]) (vs := [.int .i64 (([ckinds.1.Size, ckinds.2.1.Size, ckinds.2.2.1.Size, ckinds.2.2.2.1.Size, ckinds.2.2.2.2.Size] : List Int).getD u0.toNat 0), .int .u64 (([ckinds.1.Poly, ckinds.2.1.Poly, ckinds.2.2.1.Poly, ckinds.2.2.2.1.Poly, ckinds.2.2.2.2.Poly] : List Int).getD u0.toNat 0), .int .u64 (([ckinds.1.From, ckinds.2.1.From, ckinds.2.2.1.From, ckinds.2.2.2.1.From, ckinds.2.2.2.2.From] : List Int).getD u0.toNat 0), .int .u64 (([ckinds.1.End, ckinds.2.1.End, ckinds.2.2.1.End, ckinds.2.2.2.1.End, ckinds.2.2.2.2.End] : List Int).getD u0.toNat 0)]) (ty := 75) rfl (by kernel_rfl) (by kernel_rfl) (by kernel_rfl) (by kernel_rfl) (by kernel_rfl) rfl) ?_; intro a114 hF115; clear hF111
    refine q1 hF115 36 (str u1) ?_; intro a117 hF118; clear hF115
    refine q1 hF118 37 (.int .i64 (w64 ((u1.length : Int) - (([ckinds.1.Size, ckinds.2.1.Size, ckinds.2.2.1.Size, ckinds.2.2.2.1.Size, ckinds.2.2.2.2.Size] : List Int).getD u0.toNat 0)))) ?_; intro a120 hF121; clear hF118
    have hc123 := hp97.1; have hp124 := hp97.2; clear hp97
    refine qst hF121 (str (u1.take (w64 ((u1.length : Int) - (([ckinds.1.Size, ckinds.2.1.Size, ckinds.2.2.1.Size, ckinds.2.2.2.1.Size, ckinds.2.2.2.2.Size] : List Int).getD u0.toNat 0))).toNat)) (nog rfl _) rfl (by kernel_rfl) (fun v122 hC => strslH_run hF121 (g := []) (k := .i64) rfl (by kernel_rfl) (by kernel_rfl) (by kernel_rfl) hc123 rfl) ?_; intro a125 hF126; clear hF121
    have hc128 := hp124.1; have hp129 := hp124.2; clear hp124
    refine qcl hF126 (.int .u64 (ksumS (⟨([ckinds.1.Size, ckinds.2.1.Size, ckinds.2.2.1.Size, ckinds.2.2.2.1.Size, ckinds.2.2.2.2.Size] : List Int).getD u0.toNat 0, ([ckinds.1.Poly, ckinds.2.1.Poly, ckinds.2.2.1.Poly, ckinds.2.2.2.1.Poly, ckinds.2.2.2.2.Poly] : List Int).getD u0.toNat 0, ([ckinds.1.From, ckinds.2.1.From, ckinds.2.2.1.From, ckinds.2.2.2.1.From, ckinds.2.2.2.2.From] : List Int).getD u0.toNat 0, ([ckinds.1.End, ckinds.2.1.End, ckinds.2.2.1.End, ckinds.2.2.2.1.End, ckinds.2.2.2.2.End] : List Int).getD u0.toNat 0⟩ : Kind) (u1.take (w64 ((u1.length : Int) - (([ckinds.1.Size, ckinds.2.1.Size, ckinds.2.2.1.Size, ckinds.2.2.2.1.Size, ckinds.2.2.2.2.Size] : List Int).getD u0.toNat 0))).toNat))) 48 #[.agg #[.int .i64 (([ckinds.1.Size, ckinds.2.1.Size, ckinds.2.2.1.Size, ckinds.2.2.2.1.Size, ckinds.2.2.2.2.Size] : List Int).getD u0.toNat 0), .int .u64 (([ckinds.1.Poly, ckinds.2.1.Poly, ckinds.2.2.1.Poly, ckinds.2.2.2.1.Poly, ckinds.2.2.2.2.Poly] : List Int).getD u0.toNat 0), .int .u64 (([ckinds.1.From, ckinds.2.1.From, ckinds.2.2.1.From, ckinds.2.2.2.1.From, ckinds.2.2.2.2.From] : List Int).getD u0.toNat 0), .int .u64 (([ckinds.1.End, ckinds.2.1.End, ckinds.2.2.1.End, ckinds.2.2.2.1.End, ckinds.2.2.2.2.End] : List Int).getD u0.toNat 0)], str (u1.take (w64 ((u1.length : Int) - (([ckinds.1.Size, ckinds.2.1.Size, ckinds.2.2.1.Size, ckinds.2.2.2.1.Size, ckinds.2.2.2.2.Size] : List Int).getD u0.toNat 0))).toNat)] (nog rfl _) rfl (by kernel_rfl) (fun _ => by kernel_rfl) (qfc fun w hC => ksum_fun (⟨([ckinds.1.Size, ckinds.2.1.Size, ckinds.2.2.1.Size, ckinds.2.2.2.1.Size, ckinds.2.2.2.2.Size] : List Int).getD u0.toNat 0, ([ckinds.1.Poly, ckinds.2.1.Poly, ckinds.2.2.1.Poly, ckinds.2.2.2.1.Poly, ckinds.2.2.2.2.Poly] : List Int).getD u0.toNat 0, ([ckinds.1.From, ckinds.2.1.From, ckinds.2.2.1.From, ckinds.2.2.2.1.From, ckinds.2.2.2.2.From] : List Int).getD u0.toNat 0, ([ckinds.1.End, ckinds.2.1.End, ckinds.2.2.1.End, ckinds.2.2.2.1.End, ckinds.2.2.2.2.End] : List Int).getD u0.toNat 0⟩ : Kind) (u1.take (w64 ((u1.length : Int) - (([ckinds.1.Size, ckinds.2.1.Size, ckinds.2.2.1.Size, ckinds.2.2.2.1.Size, ckinds.2.2.2.2.Size] : List Int).getD u0.toNat 0))).toNat) hc128 _ _ hC.fz) ?_; intro a130 hF131; clear hF126
    refine q1 hF131 40 (.pointer (some ⟨b71, 0, none⟩)) ?_; intro a133 hF134; clear hF131
    refine qst hF134 (.int .i64 (([ckinds.1.Size, ckinds.2.1.Size, ckinds.2.2.1.Size, ckinds.2.2.2.1.Size, ckinds.2.2.2.2.Size] : List Int).getD u0.toNat 0)) (nog rfl _) rfl (by kernel_rfl) (fun v135 hC => ld hF134 hC 0 (g := []) (b := b71) (off := 0) (cs := [.int .i64 (([ckinds.1.Size, ckinds.2.1.Size, ckinds.2.2.1.Size, ckinds.2.2.2.1.Size, ckinds.2.2.2.2.Size] : List Int).getD u0.toNat 0), .int .u64 (([ckinds.1.Poly, ckinds.2.1.Poly, ckinds.2.2.1.Poly, ckinds.2.2.2.1.Poly, ckinds.2.2.2.2.Poly] : List Int).getD u0.toNat 0), .int .u64 (([ckinds.1.From, ckinds.2.1.From, ckinds.2.2.1.From, ckinds.2.2.2.1.From, ckinds.2.2.2.2.From] : List Int).getD u0.toNat 0), .int .u64 (([ckinds.1.End, ckinds.2.1.End, ckinds.2.2.1.End, ckinds.2.2.2.1.End, ckinds.2.2.2.2.End] : List Int).getD u0.toNat 0)]) (ty := 75) rfl (by kernel_rfl) (by kernel_rfl) (by kernel_rfl) (by kernel_rfl) rfl) ?_; intro a136 hF137; clear hF134
    have hc139 := hp129.1; have hp140 := hp129.2; clear hp129
    refine qcl hF137 (str (bwriteS (ksumS (⟨([ckinds.1.Size, ckinds.2.1.Size, ckinds.2.2.1.Size, ckinds.2.2.2.1.Size, ckinds.2.2.2.2.Size] : List Int).getD u0.toNat 0, ([ckinds.1.Poly, ckinds.2.1.Poly, ckinds.2.2.1.Poly, ckinds.2.2.2.1.Poly, ckinds.2.2.2.2.Poly] : List Int).getD u0.toNat 0, ([ckinds.1.From, ckinds.2.1.From, ckinds.2.2.1.From, ckinds.2.2.2.1.From, ckinds.2.2.2.2.From] : List Int).getD u0.toNat 0, ([ckinds.1.End, ckinds.2.1.End, ckinds.2.2.1.End, ckinds.2.2.2.1.End, ckinds.2.2.2.2.End] : List Int).getD u0.toNat 0⟩ : Kind) (u1.take (w64 ((u1.length : Int) - (([ckinds.1.Size, ckinds.2.1.Size, ckinds.2.2.1.Size, ckinds.2.2.2.1.Size, ckinds.2.2.2.2.Size] : List Int).getD u0.toNat 0))).toNat)) (([ckinds.1.Size, ckinds.2.1.Size, ckinds.2.2.1.Size, ckinds.2.2.2.1.Size, ckinds.2.2.2.2.Size] : List Int).getD u0.toNat 0))) 47 #[.int .u64 (ksumS (⟨([ckinds.1.Size, ckinds.2.1.Size, ckinds.2.2.1.Size, ckinds.2.2.2.1.Size, ckinds.2.2.2.2.Size] : List Int).getD u0.toNat 0, ([ckinds.1.Poly, ckinds.2.1.Poly, ckinds.2.2.1.Poly, ckinds.2.2.2.1.Poly, ckinds.2.2.2.2.Poly] : List Int).getD u0.toNat 0, ([ckinds.1.From, ckinds.2.1.From, ckinds.2.2.1.From, ckinds.2.2.2.1.From, ckinds.2.2.2.2.From] : List Int).getD u0.toNat 0, ([ckinds.1.End, ckinds.2.1.End, ckinds.2.2.1.End, ckinds.2.2.2.1.End, ckinds.2.2.2.2.End] : List Int).getD u0.toNat 0⟩ : Kind) (u1.take (w64 ((u1.length : Int) - (([ckinds.1.Size, ckinds.2.1.Size, ckinds.2.2.1.Size, ckinds.2.2.2.1.Size, ckinds.2.2.2.2.Size] : List Int).getD u0.toNat 0))).toNat)), .int .i64 (([ckinds.1.Size, ckinds.2.1.Size, ckinds.2.2.1.Size, ckinds.2.2.2.1.Size, ckinds.2.2.2.2.Size] : List Int).getD u0.toNat 0)] (nog rfl _) rfl (by kernel_rfl) (fun _ => by kernel_rfl) (qfc fun w hC => bwrite_fun (ksumS (⟨([ckinds.1.Size, ckinds.2.1.Size, ckinds.2.2.1.Size, ckinds.2.2.2.1.Size, ckinds.2.2.2.2.Size] : List Int).getD u0.toNat 0, ([ckinds.1.Poly, ckinds.2.1.Poly, ckinds.2.2.1.Poly, ckinds.2.2.2.1.Poly, ckinds.2.2.2.2.Poly] : List Int).getD u0.toNat 0, ([ckinds.1.From, ckinds.2.1.From, ckinds.2.2.1.From, ckinds.2.2.2.1.From, ckinds.2.2.2.2.From] : List Int).getD u0.toNat 0, ([ckinds.1.End, ckinds.2.1.End, ckinds.2.2.1.End, ckinds.2.2.2.1.End, ckinds.2.2.2.2.End] : List Int).getD u0.toNat 0⟩ : Kind) (u1.take (w64 ((u1.length : Int) - (([ckinds.1.Size, ckinds.2.1.Size, ckinds.2.2.1.Size, ckinds.2.2.2.1.Size, ckinds.2.2.2.2.Size] : List Int).getD u0.toNat 0))).toNat)) (([ckinds.1.Size, ckinds.2.1.Size, ckinds.2.2.1.Size, ckinds.2.2.2.1.Size, ckinds.2.2.2.2.Size] : List Int).getD u0.toNat 0) hc139 _ _ hC.fz) ?_; intro a141 hF142; clear hF137
    refine q1 hF142 43 (str u1) ?_; intro a144 hF145; clear hF142
    refine q1 hF145 44 (.int .i64 (w64 ((u1.length : Int) - (([ckinds.1.Size, ckinds.2.1.Size, ckinds.2.2.1.Size, ckinds.2.2.2.1.Size, ckinds.2.2.2.2.Size] : List Int).getD u0.toNat 0)))) ?_; intro a147 hF148; clear hF145
    have hc150 := hp140.1; have hp151 := hp140.2; clear hp140
    refine qst hF148 (str (u1.drop (w64 ((u1.length : Int) - (([ckinds.1.Size, ckinds.2.1.Size, ckinds.2.2.1.Size, ckinds.2.2.2.1.Size, ckinds.2.2.2.2.Size] : List Int).getD u0.toNat 0))).toNat)) (nog rfl _) rfl (by kernel_rfl) (fun v149 hC => strslL_run hF148 (g := []) (k := .i64) rfl (by kernel_rfl) (by kernel_rfl) (by kernel_rfl) hc150 rfl) ?_; intro a152 hF153; clear hF148
    refine qst hF153 (.bool ((bwriteS (ksumS (⟨([ckinds.1.Size, ckinds.2.1.Size, ckinds.2.2.1.Size, ckinds.2.2.2.1.Size, ckinds.2.2.2.2.Size] : List Int).getD u0.toNat 0, ([ckinds.1.Poly, ckinds.2.1.Poly, ckinds.2.2.1.Poly, ckinds.2.2.2.1.Poly, ckinds.2.2.2.2.Poly] : List Int).getD u0.toNat 0, ([ckinds.1.From, ckinds.2.1.From, ckinds.2.2.1.From, ckinds.2.2.2.1.From, ckinds.2.2.2.2.From] : List Int).getD u0.toNat 0, ([ckinds.1.End, ckinds.2.1.End, ckinds.2.2.1.End, ckinds.2.2.2.1.End, ckinds.2.2.2.2.End] : List Int).getD u0.toNat 0⟩ : Kind) (u1.take (w64 ((u1.length : Int) - (([ckinds.1.Size, ckinds.2.1.Size, ckinds.2.2.1.Size, ckinds.2.2.2.1.Size, ckinds.2.2.2.2.Size] : List Int).getD u0.toNat 0))).toNat)) (([ckinds.1.Size, ckinds.2.1.Size, ckinds.2.2.1.Size, ckinds.2.2.2.1.Size, ckinds.2.2.2.2.Size] : List Int).getD u0.toNat 0)) == (u1.drop (w64 ((u1.length : Int) - (([ckinds.1.Size, ckinds.2.1.Size, ckinds.2.2.1.Size, ckinds.2.2.2.1.Size, ckinds.2.2.2.2.Size] : List Int).getD u0.toNat 0))).toNat))) (nog rfl _) rfl (by kernel_rfl) (fun v154 hC => strcmp_run hF153 (g := []) (op := .eql) rfl (by kernel_rfl) (by kernel_rfl) (by decide) rfl) ?_; intro a155 hF156; clear hF153
    refine q1 hF156 4 (.bool ((bwriteS (ksumS (⟨([ckinds.1.Size, ckinds.2.1.Size, ckinds.2.2.1.Size, ckinds.2.2.2.1.Size, ckinds.2.2.2.2.Size] : List Int).getD u0.toNat 0, ([ckinds.1.Poly, ckinds.2.1.Poly, ckinds.2.2.1.Poly, ckinds.2.2.2.1.Poly, ckinds.2.2.2.2.Poly] : List Int).getD u0.toNat 0, ([ckinds.1.From, ckinds.2.1.From, ckinds.2.2.1.From, ckinds.2.2.2.1.From, ckinds.2.2.2.2.From] : List Int).getD u0.toNat 0, ([ckinds.1.End, ckinds.2.1.End, ckinds.2.2.1.End, ckinds.2.2.2.1.End, ckinds.2.2.2.2.End] : List Int).getD u0.toNat 0⟩ : Kind) (u1.take (w64 ((u1.length : Int) - (([ckinds.1.Size, ckinds.2.1.Size, ckinds.2.2.1.Size, ckinds.2.2.2.1.Size, ckinds.2.2.2.2.Size] : List Int).getD u0.toNat 0))).toNat)) (([ckinds.1.Size, ckinds.2.1.Size, ckinds.2.2.1.Size, ckinds.2.2.2.1.Size, ckinds.2.2.2.2.Size] : List Int).getD u0.toNat 0)) == (u1.drop (w64 ((u1.length : Int) - (([ckinds.1.Size, ckinds.2.1.Size, ckinds.2.2.1.Size, ckinds.2.2.2.1.Size, ckinds.2.2.2.2.Size] : List Int).getD u0.toNat 0))).toNat))) ?_; intro a158 hF159; clear hF156
    refine q1 hF159 5 (.int .i64 0) ?_; intro a161 hF162; clear hF159
    refine qnl (hQ112 _ ?_); clear hQ112 hQ112Q; intro wd163 hM164; clear hM78
    refine wp_ret ?_
    refine rt (fn := Tryd.f17) (v := .tuple #[.bool ((bwriteS (ksumS (⟨([ckinds.1.Size, ckinds.2.1.Size, ckinds.2.2.1.Size, ckinds.2.2.2.1.Size, ckinds.2.2.2.2.Size] : List Int).getD u0.toNat 0, ([ckinds.1.Poly, ckinds.2.1.Poly, ckinds.2.2.1.Poly, ckinds.2.2.2.1.Poly, ckinds.2.2.2.2.Poly] : List Int).getD u0.toNat 0, ([ckinds.1.From, ckinds.2.1.From, ckinds.2.2.1.From, ckinds.2.2.2.1.From, ckinds.2.2.2.2.From] : List Int).getD u0.toNat 0, ([ckinds.1.End, ckinds.2.1.End, ckinds.2.2.1.End, ckinds.2.2.2.1.End, ckinds.2.2.2.2.End] : List Int).getD u0.toNat 0⟩ : Kind) (u1.take (w64 ((u1.length : Int) - (([ckinds.1.Size, ckinds.2.1.Size, ckinds.2.2.1.Size, ckinds.2.2.2.1.Size, ckinds.2.2.2.2.Size] : List Int).getD u0.toNat 0))).toNat)) (([ckinds.1.Size, ckinds.2.1.Size, ckinds.2.2.1.Size, ckinds.2.2.2.1.Size, ckinds.2.2.2.2.Size] : List Int).getD u0.toNat 0)) == (u1.drop (w64 ((u1.length : Int) - (([ckinds.1.Size, ckinds.2.1.Size, ckinds.2.2.1.Size, ckinds.2.2.2.1.Size, ckinds.2.2.2.2.Size] : List Int).getD u0.toNat 0))).toNat)), .int .i64 0]) hF162 (re2 hF162 (fn := Tryd.f17) rfl (by kernel_rfl) (by kernel_rfl)) ?_
    exact ⟨((bwriteS (ksumS (⟨([ckinds.1.Size, ckinds.2.1.Size, ckinds.2.2.1.Size, ckinds.2.2.2.1.Size, ckinds.2.2.2.2.Size] : List Int).getD u0.toNat 0, ([ckinds.1.Poly, ckinds.2.1.Poly, ckinds.2.2.1.Poly, ckinds.2.2.2.1.Poly, ckinds.2.2.2.2.Poly] : List Int).getD u0.toNat 0, ([ckinds.1.From, ckinds.2.1.From, ckinds.2.2.1.From, ckinds.2.2.2.1.From, ckinds.2.2.2.2.From] : List Int).getD u0.toNat 0, ([ckinds.1.End, ckinds.2.1.End, ckinds.2.2.1.End, ckinds.2.2.2.1.End, ckinds.2.2.2.2.End] : List Int).getD u0.toNat 0⟩ : Kind) (u1.take (w64 ((u1.length : Int) - (([ckinds.1.Size, ckinds.2.1.Size, ckinds.2.2.1.Size, ckinds.2.2.2.1.Size, ckinds.2.2.2.2.Size] : List Int).getD u0.toNat 0))).toNat)) (([ckinds.1.Size, ckinds.2.1.Size, ckinds.2.2.1.Size, ckinds.2.2.2.1.Size, ckinds.2.2.2.2.Size] : List Int).getD u0.toNat 0)) == (u1.drop (w64 ((u1.length : Int) - (([ckinds.1.Size, ckinds.2.1.Size, ckinds.2.2.1.Size, ckinds.2.2.2.1.Size, ckinds.2.2.2.2.Size] : List Int).getD u0.toNat 0))).toNat), 0), rfl, hp151, hM164.below⟩

set_option maxRecDepth 100000 in
set_option maxHeartbeats 0 in
theorem lxor_walk (u0 : List UInt8) (u1 : List UInt8)  (Z : Fz) (w : World)  (hZ : Z.on w) {K : (List UInt8) → Prop} (hp : lxor_vc u0 u1 K) : Calls Tryd.prog 13 #[str u0, str u1] w fun e w' => ∃ r : (List UInt8), e = .returned (str r) ∧ K r ∧ Below w.heap.size w w' := by
 refine enter0 Tryd.func13 rfl rfl (by kernel_rfl) ?_; intro a0 hF0; have hM0 := Mem.start w Z hZ; have hle0 := Fz.le.refl Z
 refine sqH ?_; intro hQ1Q hQ1
 refine s1 hF0 4 (str []) ?_; intro a2 hF3; clear hF0
 refine nlH (hQ1 _ _ ?_); clear hQ1 hQ1Q
 refine sqH ?_; intro hQ4Q hQ4
 refine s1 hF3 7 (str u0) ?_; intro a5 hF6; clear hF3
 have hc7 := hp.1; have hp8 := hp.2; clear hp
 refine s2b hF6 hM0 hc7 (e := 5) (nog rfl _) rfl (by kernel_rfl) rfl (by kernel_rfl) (by kernel_rfl) (by kernel_rfl) (by kernel_rfl) ?_; intro ao9 cap10 a13 wd11 hF14 hM12; clear hF6 hM0
 have hM15 : Mem w.heap.size [] w Z [.mrk (tyInt .u8) 5 ao9 cap10 (istr u0)] Z wd11 := hM12; clear hM12
 refine s1 hF14 5 (.slice ao9 (istr u0).length cap10) ?_; intro a16 hF17; clear hF14
 refine nlH (hQ4 _ _ ?_); clear hQ4 hQ4Q
 refine wp_seq ?_
 refine sqH ?_; intro hQ18Q hQ18
 refine s1 hF17 9 (str u1) ?_; intro a19 hF20; clear hF17
 refine s1 hF20 10 (.int .i64 (u1.length : Int)) ?_; intro a21 hF22; clear hF20
 refine s1 hF22 11 (.int .i64 0) ?_; intro a23 hF24; clear hF22
 refine nlH (hQ18 _ _ ?_); clear hQ18 hQ18Q
 refine wp_block ?_
 have hF25 : Fr 27 [] [⟨1, [], str u1⟩, ⟨5, [], .slice ao9 (istr u0).length cap10⟩, ⟨10, [], .int .i64 (u1.length : Int)⟩, ⟨11, [], .int .i64 0⟩] a23 := hF24.region (by kernel_rfl) (by kernel_rfl); clear hF24
 have hF27 : Fr 27 [] [⟨1, [], str u1⟩, ⟨5, [], .slice ao9 (istr u0).length cap10⟩, ⟨10, [], .int .i64 (u1.length : Int)⟩, ⟨11, [], .int .i64 0⟩] a23 := hF25.region (by kernel_rfl) (by kernel_rfl); clear hF25
 obtain ⟨inv26, mu26, hI30, hr29⟩ := hp8
 refine lp (ι := Int × (List Int)) (fun (s : Int × (List Int)) => [⟨1, [], str u1⟩, ⟨5, [], .slice ao9 s.2.length cap10⟩, ⟨10, [], .int .i64 (u1.length : Int)⟩, ⟨11, [], .int .i64 s.1⟩]) (fun (s : Int × (List Int)) => [.mrk (tyInt .u8) 5 ao9 cap10 s.2]) (fun (s : Int × (List Int)) => Z) (fun (s : Int × (List Int)) => inv26 s.1 s.2) (fun (s : Int × (List Int)) => mu26 s.1 s.2) ⟨0, istr u0⟩ hI30 (by exact hF27.region (by kernel_rfl) (by kernel_rfl)) (by exact hM15) ?_
 rintro ⟨x11, zao9⟩ hI28 a32 wd33 hF34 hM35
 have hF36 : Fr 27 [] [⟨1, [], str u1⟩, ⟨5, [], .slice ao9 zao9.length cap10⟩, ⟨10, [], .int .i64 (u1.length : Int)⟩, ⟨11, [], .int .i64 x11⟩] a32 := hF34; clear hF34 hF27
 have hM37 : Mem w.heap.size [] w Z [.mrk (tyInt .u8) 5 ao9 cap10 zao9] Z wd33 := hM35; clear hM35 hM15
 have hp38 := hr29 x11 zao9 hI28
 refine sqH ?_; intro hQ39Q hQ39
 refine s1 hF36 12 (.bool (decide (x11 < (u1.length : Int)))) ?_; intro a40 hF41; clear hF36
 refine nlH (hQ39 _ _ ?_); clear hQ39 hQ39Q
 refine wp_seq ?_
 refine cd hF41 (t := decide (x11 < (u1.length : Int))) (by kernel_rfl) (fun hb42 => ?_) (fun hb42 => ?_)
 · -- yes
  have hp43 := hp38.1 hb42; clear hp38
  refine wp_skip ?_
  refine thn ?_
  refine wp_seq ?_
  refine wp_block ?_
  refine sqH ?_; intro hQ44Q hQ44
  refine s1 hF41 13 (.int .i64 x11) ?_; intro a45 hF46; clear hF41
  refine s1 hF46 6 (.int .i64 x11) ?_; intro a47 hF48; clear hF46
  refine nlH (hQ44 _ _ ?_); clear hQ44 hQ44Q
  refine sqH ?_; intro hQ49Q hQ49
  refine s1 hF48 14 (str u1) ?_; intro a50 hF51; clear hF48
  refine s1 hF51 15 (.int .i64 x11) ?_; intro a52 hF53; clear hF51
  have hc54 := hp43.1; have hp55 := hp43.2; clear hp43
  obtain ⟨c56, hq57⟩ : ∃ q, u1[x11.toNat]? = some q := ⟨_, List.getElem?_eq_getElem (by omega)⟩; have hp58 := hp55 c56 hq57
  refine st hF53 (.int .u8 (c56.toNat : Int)) (nog rfl _) rfl (by kernel_rfl) (stridx_run hF53 (k := .i64) rfl (by kernel_rfl) (by kernel_rfl) (by kernel_rfl) hc54.1 hq57) ?_; intro a59 hF60; clear hF53
  refine s1 hF60 17 (.bool ((c56.toNat : Int) == 49)) ?_; intro a61 hF62; clear hF60
  refine nlH (hQ49 _ _ ?_); clear hQ49 hQ49Q
  refine cd hF62 (t := (c56.toNat : Int) == 49) (by kernel_rfl) (fun hb63 => ?_) (fun hb63 => ?_)
  · -- yes
   have hp64 := hp58.1 hb63; clear hp58
   refine rgH ?_; intro hQ65Q hQ65
   refine s1 hF62 18 (.slice ao9 zao9.length cap10) ?_; intro a66 hF67; clear hF62
   refine s1 hF67 19 (.int .i64 x11) ?_; intro a68 hF69; clear hF67
   have hc70 := hp64.1; have hp71 := hp64.2; clear hp64
   refine ixoM hF69 hM37 0 (T := (tyInt .u8)) (xs := zao9) x11 hc70 (k := .i64) (e := 5) (bytes := 1) (nog rfl _) rfl (by kernel_rfl) rfl (by kernel_rfl) (by kernel_rfl) rfl (by kernel_rfl) ?_; intro g72 a74 hg73 hF75; clear hF69
   subst hg73
   have hF76 : Fr 27 [] [⟨1, [], str u1⟩, ⟨5, [], .slice (some ⟨g72, 0, none⟩) zao9.length cap10⟩, ⟨6, [], .int .i64 x11⟩, ⟨10, [], .int .i64 (u1.length : Int)⟩, ⟨11, [], .int .i64 x11⟩, ⟨12, [], .bool (decide (x11 < (u1.length : Int)))⟩, ⟨13, [], .int .i64 x11⟩, ⟨14, [], str u1⟩, ⟨15, [], .int .i64 x11⟩, ⟨16, [], .int .u8 (c56.toNat : Int)⟩, ⟨17, [], .bool ((c56.toNat : Int) == 49)⟩, ⟨18, [], .slice (some ⟨g72, 0, none⟩) zao9.length cap10⟩, ⟨19, [], .int .i64 x11⟩, ⟨20, [], .pointer (some ⟨g72, x11.toNat * 1, none⟩)⟩] a74 := hF75.region (by kernel_rfl) (by kernel_rfl); clear hF75
   have hM77 : Mem w.heap.size [] w Z [.mrk (tyInt .u8) 5 (some ⟨g72, 0, none⟩) cap10 zao9] Z wd33 := hM37; clear hM37
   obtain ⟨q78, hq79⟩ : ∃ q, zao9[x11.toNat]? = some q := ⟨_, List.getElem?_eq_getElem (by first | omega | (simp only [List.length_set] at *; omega))⟩; have hp80 := hp71 q78 hq79; clear hp71
   obtain ⟨cs81, hT82, hcl83⟩ := own_elM hM77 0 (T := (tyInt .u8)) (xs := zao9) rfl x11.toNat hq79
   obtain rfl : cs81 = ([.int .u8 q78] : List Value) := hT82
   refine lc1 hF76 21 (.int .u8 q78) (hcl83 0 _ rfl) rfl ?_; intro a84 hF85; clear hF76
   refine s1 hF85 22 (.int .u8 (bXor .u8 q78 1)) ?_; intro a86 hF87; clear hF85
   have hc88 := hp80.1; have hp89 := hp80.2; clear hp80
   refine ixoM hF87 hM77 0 (T := (tyInt .u8)) (xs := zao9) x11 hc88 (k := .i64) (e := 5) (bytes := 1) (nog rfl _) rfl (by kernel_rfl) rfl (by kernel_rfl) (by kernel_rfl) rfl (by kernel_rfl) ?_; intro g90 a92 hg91 hF93; clear hF87
   obtain rfl : g72 = g90 := by simpa using hg91
   have hF94 : Fr 27 [] [⟨1, [], str u1⟩, ⟨5, [], .slice (some ⟨g72, 0, none⟩) zao9.length cap10⟩, ⟨6, [], .int .i64 x11⟩, ⟨10, [], .int .i64 (u1.length : Int)⟩, ⟨11, [], .int .i64 x11⟩, ⟨12, [], .bool (decide (x11 < (u1.length : Int)))⟩, ⟨13, [], .int .i64 x11⟩, ⟨14, [], str u1⟩, ⟨15, [], .int .i64 x11⟩, ⟨16, [], .int .u8 (c56.toNat : Int)⟩, ⟨17, [], .bool ((c56.toNat : Int) == 49)⟩, ⟨18, [], .slice (some ⟨g72, 0, none⟩) zao9.length cap10⟩, ⟨19, [], .int .i64 x11⟩, ⟨20, [], .pointer (some ⟨g72, x11.toNat * 1, none⟩)⟩, ⟨21, [], .int .u8 q78⟩, ⟨22, [], .int .u8 (bXor .u8 q78 1)⟩, ⟨23, [], .pointer (some ⟨g72, x11.toNat * 1, none⟩)⟩] a92 := hF93.region (by kernel_rfl) (by kernel_rfl); clear hF93
   have hM95 : Mem w.heap.size [] w Z [.mrk (tyInt .u8) 5 (some ⟨g72, 0, none⟩) cap10 zao9] Z wd33 := hM77; clear hM77
   refine soM hF94 hM95 0 (T := (tyInt .u8)) (xs := zao9) x11.toNat (bXor .u8 q78 1) (u := .int .u8 (bXor .u8 q78 1)) (nog rfl _) rfl rfl (by kernel_rfl) rfl (by kernel_rfl) rfl (by kernel_rfl) (by first | omega | (simp only [List.length_set] at *; omega)) rfl ?_; intro wd96 hM97; clear hM95
   have hF98 : Fr 27 [] [⟨1, [], str u1⟩, ⟨5, [], .slice (some ⟨g72, 0, none⟩) (zao9.set x11.toNat (bXor .u8 q78 1)).length cap10⟩, ⟨6, [], .int .i64 x11⟩, ⟨10, [], .int .i64 (u1.length : Int)⟩, ⟨11, [], .int .i64 x11⟩, ⟨12, [], .bool (decide (x11 < (u1.length : Int)))⟩, ⟨13, [], .int .i64 x11⟩, ⟨14, [], str u1⟩, ⟨15, [], .int .i64 x11⟩, ⟨16, [], .int .u8 (c56.toNat : Int)⟩, ⟨17, [], .bool ((c56.toNat : Int) == 49)⟩, ⟨18, [], .slice (some ⟨g72, 0, none⟩) (zao9.set x11.toNat (bXor .u8 q78 1)).length cap10⟩, ⟨19, [], .int .i64 x11⟩, ⟨20, [], .pointer (some ⟨g72, x11.toNat * 1, none⟩)⟩, ⟨21, [], .int .u8 q78⟩, ⟨22, [], .int .u8 (bXor .u8 q78 1)⟩, ⟨23, [], .pointer (some ⟨g72, x11.toNat * 1, none⟩)⟩] a92 := by (try simp only [List.length_set] at hF94); (try simp only [List.length_set]); exact hF94.region (by kernel_rfl) (by kernel_rfl)
   clear hF94
   have hM99 : Mem w.heap.size [] w Z [.mrk (tyInt .u8) 5 (some ⟨g72, 0, none⟩) cap10 (zao9.set x11.toNat (bXor .u8 q78 1))] Z wd96 := hM97; clear hM97
   refine nlH (hQ65 _ _ ?_); clear hQ65 hQ65Q
   refine ibn ?_
   refine thn ?_
   refine rgH ?_; intro hQ100Q hQ100
   refine s1 hF98 24 (.int .i64 (w64 (x11 + 1))) ?_; intro a101 hF102; clear hF98
   refine s1 hF102 11 (.int .i64 (w64 (x11 + 1))) ?_; intro a103 hF104; clear hF102
   refine nlH (hQ100 _ _ ?_); clear hQ100 hQ100Q
   refine rd ?_
   exact ⟨⟨w64 (x11 + 1), zao9.set x11.toNat (bXor .u8 q78 1)⟩, hp89.1, hp89.2, (hF104.region (by kernel_rfl) (by kernel_rfl)).anyβ _ (by kernel_rfl), hM99.keep (List.Sublist.cons_cons _ (List.Sublist.slnil))⟩
  · -- no
   have hp105 := hp58.2 hb63; clear hp58
   refine wp_skip ?_
   refine ibn ?_
   refine thn ?_
   refine rgH ?_; intro hQ106Q hQ106
   refine s1 hF62 24 (.int .i64 (w64 (x11 + 1))) ?_; intro a107 hF108; clear hF62
   refine s1 hF108 11 (.int .i64 (w64 (x11 + 1))) ?_; intro a109 hF110; clear hF108
   refine nlH (hQ106 _ _ ?_); clear hQ106 hQ106Q
   refine rd ?_
   exact ⟨⟨w64 (x11 + 1), zao9⟩, hp105.1, hp105.2, (hF110.region (by kernel_rfl) (by kernel_rfl)).anyβ _ (by kernel_rfl), hM37.keep (List.Sublist.cons_cons _ (List.Sublist.slnil))⟩
 · -- no
  have hp111 := hp38.2 hb42; clear hp38
  refine wp_exit ?_
  refine thx ?_
  refine thx ?_
  refine ibx ?_
  refine thn ?_
  refine sqH ?_; intro hQ112Q hQ112
  refine s1 hF41 25 (.slice ao9 zao9.length cap10) ?_; intro a113 hF114; clear hF41
  refine st hF114 (str (bstr zao9)) (nog rfl _) rfl (by kernel_rfl) ((by obtain ⟨Z9, hle9, hon9, hs9⟩ := hM37.lendM 0 rfl; exact bstr_op hF114 (g := []) (e := 5) (ao := ao9) (cap := cap10) (xs := zao9) rfl (by kernel_rfl) (by kernel_rfl) (by kernel_rfl) (by kernel_rfl)  hs9 hon9 rfl)) ?_; intro a115 hF116; clear hF114
  refine s1 hF116 4 (str (bstr zao9)) ?_; intro a117 hF118; clear hF116
  refine nlH (hQ112 _ _ ?_); clear hQ112 hQ112Q
  refine wp_ret ?_
  refine rt (fn := Tryd.f13) (v := str (bstr zao9)) hF118 (re1 hF118 (fn := Tryd.f13) rfl (by kernel_rfl)) ?_
  exact ⟨bstr zao9, rfl, hp111, hM37.below⟩

end Go.Proofs.YtinegicenfndkaaDoor
