/- The walks, made by program: each call does what its pure predicate says. -/
import Derived.Test.YtkogkombalcgeaaPF
import Derived.Test.YtkogkombalcgeaaWE
set_option linter.unusedVariables false
set_option linter.unusedSimpArgs false
namespace Go.Proofs.Ytkogkombalcgeaa
open Go.Sy Go.RowKit
set_option maxRecDepth 100000 in
theorem fgrow_walk (u1 : Int)  (Z : Fz) (w : World)  (hZ : Z.on w) {K : (List Filter) → Prop} (hp : fgrow_vc u1 K) : Calls Try.prog 56 #[.slice none 0 0, .int .i64 u1] w fun e w' => ∃ (r : (List Filter)) (ao1001 : Option Addr) (cap1002 : Nat) (Z' : Fz), e = .returned (.slice ao1001 r.length cap1002) ∧ K r ∧ Mem w.heap.size [] w Z [.own tyFilter 28 ao1001 cap1002 r] Z' w' := by
 refine enter0 Try.func56 rfl rfl (by kernel_rfl) ?_; intro a0 hF0; have hM0 := Mem.start w Z hZ; have hle0 := Fz.le.refl Z
 refine sqH ?_; intro hQ1Q hQ1
 refine s1 hF0 4 (.slice none 0 0) ?_; intro a2 hF3; clear hF0
 refine nlH (hQ1 _ _ ?_); clear hQ1 hQ1Q
 refine wp_seq ?_
 refine sqH ?_; intro hQ4Q hQ4
 refine s1 hF3 5 (.int .i64 u1) ?_; intro a5 hF6; clear hF3
 refine s1 hF6 6 (.bool (decide (u1 < 0))) ?_; intro a7 hF8; clear hF6
 refine nlH (hQ4 _ _ ?_); clear hQ4 hQ4Q
 refine cd hF8 (t := decide (u1 < 0)) (by kernel_rfl) (fun hb9 => ?_) (fun hb9 => ?_)
 · -- yes
  have hp10 := hp.1 hb9; clear hp
  exact False.elim hp10
 · -- no
  have hp11 := hp.2 hb9; clear hp
  refine wp_skip ?_
  refine thn ?_
  refine wp_seq ?_
  refine sqH ?_; intro hQ12Q hQ12
  refine s1 hF8 8 (.int .i64 u1) ?_; intro a13 hF14; clear hF8
  refine s1 hF14 9 (.slice none 0 0) ?_; intro a15 hF16; clear hF14
  refine s1 hF16 10 (.int .i64 0) ?_; intro a17 hF18; clear hF16
  refine s1 hF18 11 (.slice none 0 0) ?_; intro a19 hF20; clear hF18
  refine s1 hF20 12 (.int .i64 0) ?_; intro a21 hF22; clear hF20
  refine s1 hF22 13 (.int .i64 0) ?_; intro a23 hF24; clear hF22
  refine s1 hF24 14 (.int .i64 (w64 (u1 - 0))) ?_; intro a25 hF26; clear hF24
  refine s1 hF26 1 (.int .i64 (w64 (u1 - 0))) ?_; intro a27 hF28; clear hF26
  refine nlH (hQ12 _ _ ?_); clear hQ12 hQ12Q
  refine sqH ?_; intro hQ29Q hQ29
  refine s1 hF28 15 (.int .i64 (w64 (u1 - 0))) ?_; intro a30 hF31; clear hF28
  refine s1 hF31 16 (.bool (decide ((w64 (u1 - 0)) > 0))) ?_; intro a32 hF33; clear hF31
  refine nlH (hQ29 _ _ ?_); clear hQ29 hQ29Q
  refine cd hF33 (t := decide ((w64 (u1 - 0)) > 0)) (by kernel_rfl) (fun hb34 => ?_) (fun hb34 => ?_)
  · -- yes
   have hp35 := hp11.1 hb34; clear hp11
   refine rgH ?_; intro hQ36Q hQ36
   refine s1 hF33 17 (.slice none 0 0) ?_; intro a37 hF38; clear hF33
   refine s1 hF38 18 (.slice none 0 0) ?_; intro a39 hF40; clear hF38
   refine s1 hF40 19 (.int .i64 0) ?_; intro a41 hF42; clear hF40
   refine s1 hF42 20 (.slice none 0 0) ?_; intro a43 hF44; clear hF42
   refine s1 hF44 21 (.int .i64 (w64 (u1 - 0))) ?_; intro a45 hF46; clear hF44
   have hc47 := hp35.1; have hp48 := hp35.2; clear hp35
   refine apz hF46 hM0 (T := tyFilter) (w64 (u1 - 0)) (kx := .i64) (kk := .i64) (e := 28) (bytes := 24) (zs := [.int .i64 0, .int .i64 0, .bool false]) (z := ((⟨0, 0, false⟩ : Filter) : Filter)) (by simp only [lim]; omega) (nog rfl _) rfl (by kernel_rfl) rfl (by kernel_rfl) (by kernel_rfl) (by kernel_rfl) (by kernel_rfl) (by kernel_rfl) rfl ?_; intro ao49 cap50 a53 wd51 hF54 hM52; clear hF46 hM0
   refine s1 hF54 23 (.slice none 0 0) ?_; intro a55 hF56; clear hF54
   refine s1 hF56 24 (.int .i64 0) ?_; intro a57 hF58; clear hF56
   have hc59 := hp48.1; have hp60 := hp48.2; clear hp48
   refine slt hF58 hM52 0 (T := tyFilter) (xs := (List.replicate (w64 (u1 - 0)).toNat ((⟨0, 0, false⟩ : Filter) : Filter))) (ao := ao49) (cap := cap50) (0 : Int).toNat (by omega) (e := 28) (bytes := 24) (k := .i64) (nog rfl _) rfl (by kernel_rfl) rfl (by kernel_rfl) rfl (by kernel_rfl) (by rw [Int.toNat_of_nonneg (by omega)]; kernel_rfl) ?_; intro a61 hF62 hM63; clear hF58 hM52
   have hM64 : Mem w.heap.size [] w Z [.own tyFilter 28 ao49 cap50 ((List.replicate (w64 (u1 - 0)).toNat ((⟨0, 0, false⟩ : Filter) : Filter)).take (0 : Int).toNat)] Z wd51 := hM63; clear hM63
   refine s1 hF62 0 (.slice ao49 ((List.replicate (w64 (u1 - 0)).toNat ((⟨0, 0, false⟩ : Filter) : Filter)).take (0 : Int).toNat).length cap50) ?_; intro a65 hF66; clear hF62
   refine nlH (hQ36 _ _ ?_); clear hQ36 hQ36Q
   refine thn ?_
   have hF67 : Fr 27 [] [⟨0, [], .slice ao49 ((List.replicate (w64 (u1 - 0)).toNat ((⟨0, 0, false⟩ : Filter) : Filter)).take (0 : Int).toNat).length cap50⟩] a65 := hF66.region (by kernel_rfl) (by kernel_rfl); clear hF66
   refine sqH ?_; intro hQ68Q hQ68
   refine s1 hF67 26 (.slice ao49 ((List.replicate (w64 (u1 - 0)).toNat ((⟨0, 0, false⟩ : Filter) : Filter)).take (0 : Int).toNat).length cap50) ?_; intro a69 hF70; clear hF67
   refine s1 hF70 4 (.slice ao49 ((List.replicate (w64 (u1 - 0)).toNat ((⟨0, 0, false⟩ : Filter) : Filter)).take (0 : Int).toNat).length cap50) ?_; intro a71 hF72; clear hF70
   refine nlH (hQ68 _ _ ?_); clear hQ68 hQ68Q
   refine wp_ret ?_
   refine rt (fn := Try.f56) (v := .slice ao49 ((List.replicate (w64 (u1 - 0)).toNat ((⟨0, 0, false⟩ : Filter) : Filter)).take (0 : Int).toNat).length cap50) hF72 (re1 hF72 (fn := Try.f56) rfl (by kernel_rfl)) ?_
   exact ⟨((List.replicate (w64 (u1 - 0)).toNat ((⟨0, 0, false⟩ : Filter) : Filter)).take (0 : Int).toNat), ao49, cap50, Z, rfl, hp60, hM64.keep (List.Sublist.cons_cons _ (List.Sublist.slnil))⟩
  · -- no
   have hp73 := hp11.2 hb34; clear hp11
   refine wp_skip ?_
   refine thn ?_
   refine sqH ?_; intro hQ74Q hQ74
   refine s1 hF33 26 (.slice none 0 0) ?_; intro a75 hF76; clear hF33
   refine s1 hF76 4 (.slice none 0 0) ?_; intro a77 hF78; clear hF76
   refine nlH (hQ74 _ _ ?_); clear hQ74 hQ74Q
   refine wp_ret ?_
   have hM79 : Mem w.heap.size [] w Z [.own tyFilter 28 none 0 ([] : List Filter)] Z w := hM0.addNil tyFilter 28 (by decide); clear hM0
   refine rt (fn := Try.f56) (v := .slice none ([] : List Filter).length 0) hF78 (re1 hF78 (fn := Try.f56) rfl (by kernel_rfl)) ?_
   exact ⟨([] : List Filter), none, 0, Z, rfl, hp73, hM79.keep (List.Sublist.cons_cons _ (List.Sublist.slnil))⟩

end Go.Proofs.Ytkogkombalcgeaa
