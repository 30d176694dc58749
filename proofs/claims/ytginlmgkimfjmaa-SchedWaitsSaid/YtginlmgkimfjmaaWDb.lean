/- The walks, made by program: each call does what its pure predicate says. -/
import Derived.Test.YtginlmgkimfjmaaPDb
import Derived.Test.YtginlmgkimfjmaaWDa
set_option linter.unusedVariables false
set_option linter.unusedSimpArgs false
namespace Go.Proofs.Ytginlmgkimfjmaa
open Go.Sy Go.RowKit
theorem bwrite_fun (u0 : Int) (u1 : Int) (hpre : 0 ≤ u1 ∧ u1 ≤ 64 ∧ 0 ≤ u0 ∧ u0 < 2 ^ 62)  (Z : Fz) (w : World)  (hZ : Z.on w) : Calls Try.prog 115 #[.int .u64 u0, .int .i64 u1] w fun e w' => e = .returned (str (bwriteS u0 u1)) ∧ Below w.heap.size w w' :=
  (bwrite_walk u0 u1  Z w  hZ (bwrite_ok u0 u1 hpre)).mono fun _ _ ⟨r, he, hk, hb⟩ => ⟨by subst hk; exact he, hb⟩

set_option maxRecDepth 100000 in
set_option maxHeartbeats 0 in
theorem bof_walk (u0 : List Int) (ao1 : Option Addr) (cap2 : Nat) (Z : Fz) (w : World) (hs3 : SlR (tyInt .u8) Z ao1 cap2 u0) (hZ : Z.on w) {K : ((List UInt8) × Int) → Prop} (hp : bof_vc u0 K) : Calls Try.prog 114 #[.slice ao1 u0.length cap2] w fun e w' => ∃ r : (List UInt8) × Int, e = .returned (.tuple #[str r.1, .int .i64 r.2]) ∧ K r ∧ Below w.heap.size w w' := by
 refine enter0 Try.func114 rfl rfl (by kernel_rfl) ?_; intro a0 hF0; have hM0 := Mem.start w Z hZ; have hle0 := Fz.le.refl Z
 have hzB := Go.Sy.zB hZ
 have hp4 := hp (hs3.small); clear hp
 refine sqH ?_; intro hQ5Q hQ5
 refine s1 hF0 2 (str []) ?_; intro a6 hF7; clear hF0
 refine s1 hF7 3 (.int .i64 0) ?_; intro a8 hF9; clear hF7
 refine nlH (hQ5 _ _ ?_); clear hQ5 hQ5Q
 refine wp_seq ?_
 refine sqH ?_; intro hQ10Q hQ10
 refine s1 hF9 7 (.slice ao1 u0.length cap2) ?_; intro a11 hF12; clear hF9
 refine s1 hF12 8 (.int .i64 (u0.length : Int)) ?_; intro a13 hF14; clear hF12
 refine s1 hF14 9 (.bool (decide ((u0.length : Int) > 125))) ?_; intro a15 hF16; clear hF14
 refine nlH (hQ10 _ _ ?_); clear hQ10 hQ10Q
 refine cd hF16 (t := decide ((u0.length : Int) > 125)) (by kernel_rfl) (fun hb17 => ?_) (fun hb17 => ?_)
 · -- yes
  have hp18 := hp4.1 hb17; clear hp4
  refine sqH ?_; intro hQ19Q hQ19
  refine s1 hF16 2 (str []) ?_; intro a20 hF21; clear hF16
  refine s1 hF21 3 (.int .i64 2) ?_; intro a22 hF23; clear hF21
  refine nlH (hQ19 _ _ ?_); clear hQ19 hQ19Q
  refine wp_ret ?_
  refine thr ?_
  refine rt (fn := Try.f114) (v := .tuple #[str [], .int .i64 2]) hF23 (re2 hF23 (fn := Try.f114) rfl (by kernel_rfl) (by kernel_rfl)) ?_
  exact ⟨([], 2), rfl, hp18, hM0.below⟩
 · -- no
  have hp24 := hp4.2 hb17; clear hp4
  refine wp_skip ?_
  refine thn ?_
  refine sqH ?_; intro hQ25Q hQ25
  refine sn hF16 hM0 (fun b => .pointer (some ⟨b, 0, none⟩)) [.pointer none, .slice none 0 0] 191 (nog rfl _) rfl (by kernel_rfl) (by kernel_rfl) ?_; intro b26 a27 wd29 hF28 hM30; clear hF16 hM0
  refine nlH (hQ25 _ _ ?_); clear hQ25 hQ25Q
  refine wp_seq ?_
  refine sqH ?_; intro hQ31Q hQ31
  refine s1 hF28 10 (.slice ao1 u0.length cap2) ?_; intro a32 hF33; clear hF28
  refine s1 hF33 11 (.int .i64 (u0.length : Int)) ?_; intro a34 hF35; clear hF33
  refine s1 hF35 12 (.int .i64 0) ?_; intro a36 hF37; clear hF35
  refine nlH (hQ31 _ _ ?_); clear hQ31 hQ31Q
  refine wp_block ?_
  have hF38 : Fr 22 [] [⟨4, [], .pointer (some ⟨b26, 0, none⟩)⟩, ⟨10, [], .slice ao1 u0.length cap2⟩, ⟨11, [], .int .i64 (u0.length : Int)⟩, ⟨12, [], .int .i64 0⟩] a36 := hF37.region (by kernel_rfl) (by kernel_rfl); clear hF37
  have hM40 : Mem w.heap.size [] w Z [.row b26 [.pointer none, .slice none ([] : List UInt8).length 0] 191, .own tyByte 5 none 0 ([] : List UInt8)] Z wd29 := hM30.bldNil 5; clear hM30
  have hF41 : Fr 22 [] [⟨4, [], .pointer (some ⟨b26, 0, none⟩)⟩, ⟨10, [], .slice ao1 u0.length cap2⟩, ⟨11, [], .int .i64 (u0.length : Int)⟩, ⟨12, [], .int .i64 0⟩] a36 := hF38.region (by kernel_rfl) (by kernel_rfl); clear hF38
  obtain ⟨inv39, mu39, hI44, hr43⟩ := hp24
  refine lp (ι := Int × (List UInt8) × Value × (Option Addr) × Nat) (fun (s : Int × (List UInt8) × Value × (Option Addr) × Nat) => [⟨4, [], .pointer (some ⟨b26, 0, none⟩)⟩, ⟨10, [], .slice ao1 u0.length cap2⟩, ⟨11, [], .int .i64 (u0.length : Int)⟩, ⟨12, [], .int .i64 s.1⟩]) (fun (s : Int × (List UInt8) × Value × (Option Addr) × Nat) => [.row b26 [s.2.2.1, .slice s.2.2.2.1 s.2.1.length s.2.2.2.2] 191, .own tyByte 5 s.2.2.2.1 s.2.2.2.2 s.2.1]) (fun (s : Int × (List UInt8) × Value × (Option Addr) × Nat) => Z) (fun (s : Int × (List UInt8) × Value × (Option Addr) × Nat) => inv39 s.1 s.2.1 ∧ (s.2.2.1 = .pointer none ∨ s.2.2.1 = .pointer (some ⟨b26, 0, none⟩))) (fun (s : Int × (List UInt8) × Value × (Option Addr) × Nat) => mu39 s.1 s.2.1) ⟨0, ([] : List UInt8), (.pointer none), none, 0⟩ ⟨hI44, (.inl rfl)⟩ (by exact hF41.region (by kernel_rfl) (by kernel_rfl)) (by exact hM40) ?_
  rintro ⟨x12, yb26, vpyb26, aoyb26, capyb26⟩ ⟨hI42, hvpyb26⟩ a46 wd47 hF48 hM49
  have hF50 : Fr 22 [] [⟨4, [], .pointer (some ⟨b26, 0, none⟩)⟩, ⟨10, [], .slice ao1 u0.length cap2⟩, ⟨11, [], .int .i64 (u0.length : Int)⟩, ⟨12, [], .int .i64 x12⟩] a46 := hF48; clear hF48 hF41
  have hM51 : Mem w.heap.size [] w Z [.row b26 [vpyb26, .slice aoyb26 yb26.length capyb26] 191, .own tyByte 5 aoyb26 capyb26 yb26] Z wd47 := hM49; clear hM49 hM40
  have hp52 := hr43 x12 yb26 hI42
  refine sqH ?_; intro hQ53Q hQ53
  refine s1 hF50 13 (.bool (decide (x12 < (u0.length : Int)))) ?_; intro a54 hF55; clear hF50
  refine nlH (hQ53 _ _ ?_); clear hQ53 hQ53Q
  refine wp_seq ?_
  refine cd hF55 (t := decide (x12 < (u0.length : Int))) (by kernel_rfl) (fun hb56 => ?_) (fun hb56 => ?_)
  · -- yes
   have hp57 := hp52.1 hb56; clear hp52
   refine wp_skip ?_
   refine thn ?_
   refine wp_seq ?_
   refine wp_block ?_
   refine sqH ?_; intro hQ58Q hQ58
   have hc59 := hp57.1; have hp60 := hp57.2; clear hp57
   refine ix hF55 (T := (tyInt .u8)) (xs := u0) hs3 x12 hc59 (k := .i64) (e := 5) (bytes := 1) (nog rfl _) rfl (by kernel_rfl) rfl (by kernel_rfl) (by kernel_rfl) (by kernel_rfl) ?_; intro b61 off62 cs63 q64 a68 hq65 hP66 hT67 hF69; clear hF55
   have hp70 := hp60 q64 hq65; clear hp60
   obtain rfl : cs63 = ([.int .u8 q64] : List Value) := hT67
   refine z1 hF69 hM51 15 hP66 0 (.int .u8 q64) rfl ?_; intro a71 hF72; clear hF69
   refine s1 hF72 6 (.int .u8 q64) ?_; intro a73 hF74; clear hF72
   refine nlH (hQ58 _ _ ?_); clear hQ58 hQ58Q
   refine rgH ?_; intro hQ75Q hQ75
   refine s1 hF74 16 (.int .u8 q64) ?_; intro a76 hF77; clear hF74
   refine s1 hF77 17 (.int .u64 (wu64 q64)) ?_; intro a78 hF79; clear hF77
   have hc80 := hp70.1; have hp81 := hp70.2; clear hp70
   refine fcl hF79 hM51 (str (bwriteS (wu64 q64) 8)) 115 #[.int .u64 (wu64 q64), .int .i64 8] (nog rfl _) rfl (by kernel_rfl) (fun _ => by kernel_rfl) (bwrite_fun (wu64 q64) 8 hc80 _ _ hM51.fz) ?_; intro a82 wd84 hF83 hM85; clear hF79 hM51
   have hc90 := hp81.1; have hp91 := hp81.2; clear hp81
   refine cl hF83 128 #[.pointer (some ⟨b26, 0, none⟩), str (bwriteS (wu64 q64) 8)] (nog rfl _) rfl (by kernel_rfl) (by kernel_rfl) ?_
   refine (Go.Sy.bld_write Try.lays166 Try.lays166X hM85 hzB hvpyb26 hc90).mono ?_; rintro _ wd86 ⟨ao92, cap93, rfl, hm⟩; refine ⟨_, rfl, ?_⟩; intro a87 hF88; have hM89 := hm; clear hm hM85 hF83
   have hM94 : Mem w.heap.size [] w Z [.row b26 [.pointer (some ⟨b26, 0, none⟩), .slice ao92 (yb26 ++ (bwriteS (wu64 q64) 8)).length cap93] 191, .own tyByte 5 ao92 cap93 (yb26 ++ (bwriteS (wu64 q64) 8))] Z wd86 := hM89; clear hM89
   refine nlH (hQ75 _ _ ?_); clear hQ75 hQ75Q
   refine ibn ?_
   refine thn ?_
   refine rgH ?_; intro hQ95Q hQ95
   refine s1 hF88 20 (.int .i64 (w64 (x12 + 1))) ?_; intro a96 hF97; clear hF88
   refine s1 hF97 12 (.int .i64 (w64 (x12 + 1))) ?_; intro a98 hF99; clear hF97
   refine nlH (hQ95 _ _ ?_); clear hQ95 hQ95Q
   refine rd ?_
   exact ⟨⟨w64 (x12 + 1), yb26 ++ (bwriteS (wu64 q64) 8), (.pointer (some ⟨b26, 0, none⟩)), ao92, cap93⟩, ⟨hp91.1, (.inr rfl)⟩, hp91.2, (hF99.region (by kernel_rfl) (by kernel_rfl)).anyβ _ (by kernel_rfl), hM94.keep (List.Sublist.cons_cons _ (List.Sublist.cons_cons _ (List.Sublist.slnil)))⟩
  · -- no
   have hp100 := hp52.2 hb56; clear hp52
   refine wp_exit ?_
   refine thx ?_
   refine thx ?_
   refine ibx ?_
   refine thn ?_
   refine sqH ?_; intro hQ101Q hQ101
   refine cl hF55 129 #[.pointer (some ⟨b26, 0, none⟩)] (nog rfl _) rfl (by kernel_rfl) (by kernel_rfl) ?_
   refine (Go.Sy.bld_string Try.lays169 Try.lays169X hM51 hzB hvpyb26).mono ?_; rintro _ wd102 ⟨rfl, hm⟩; refine ⟨_, rfl, ?_⟩; intro a103 hF104; have hM105 := hm; clear hm hM51 hF55
   have hM106 : Mem w.heap.size [] w Z [] Z wd102 := hM105; clear hM105
   refine s1 hF104 2 (str yb26) ?_; intro a107 hF108; clear hF104
   refine s1 hF108 3 (.int .i64 0) ?_; intro a109 hF110; clear hF108
   refine nlH (hQ101 _ _ ?_); clear hQ101 hQ101Q
   refine wp_ret ?_
   refine rt (fn := Try.f114) (v := .tuple #[str yb26, .int .i64 0]) hF110 (re2 hF110 (fn := Try.f114) rfl (by kernel_rfl) (by kernel_rfl)) ?_
   exact ⟨(yb26, 0), rfl, hp100, hM106.below⟩

end Go.Proofs.Ytginlmgkimfjmaa
