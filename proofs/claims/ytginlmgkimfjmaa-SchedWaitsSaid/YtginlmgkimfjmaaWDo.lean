/- The walks, made by program: each call does what its pure predicate says. -/
import Derived.Test.YtginlmgkimfjmaaPDo
import Derived.Test.YtginlmgkimfjmaaWDn
set_option linter.unusedVariables false
set_option linter.unusedSimpArgs false
namespace Go.Proofs.Ytginlmgkimfjmaa
open Go.Sy Go.RowKit
theorem sins_fun (u0 : List Job) (u1 : Int) (u2 : Int) (u3 : Job → Job → Int) (hpre : sinsPre u0 u1 u2 u3) (ao1 : Option Addr) (cap2 : Nat) (fid3 : Nat) (caps4 : Array Value) (B : Nat) (w0 : World) (Z0 : Fz) (Rr : List Res) (Z : Fz) (w : World) (hf5 : ∀ (Z1 : Fz) (w1 : World), Z.le Z1 → Z1.on w1 → ∀ (x0 : Job) (x1 : Job), Calls Try.prog fid3 (#[.agg #[.int .i64 x0.task, .int .i64 x0.from_, .int .i64 x0.asked], .agg #[.int .i64 x1.task, .int .i64 x1.from_, .int .i64 x1.asked]] ++ caps4) w1 fun e w2 => e = .returned (.int .i64 (u3 x0 x1)) ∧ Below w1.heap.size w1 w2) (hg6 : ∀ x w, Sem.run Try.prog (callFunc fid3 x) w = .ok (.enter fid3 x) w) (hM0 : Mem B [] w0 Z0 ((.own tyJob 110 ao1 cap2 u0) :: Rr) Z w) (hZ : Z.on w) : Calls Try.prog 111 #[.slice ao1 u0.length cap2, .int .i64 u1, .int .i64 u2, .func (.func fid3) #[] caps4] w fun e w' => ∃ (Z' : Fz), e = .returned (.tuple #[]) ∧ Fz.le Z Z' ∧ ((sinsS u0 u1 u2 u3).length = u0.length) ∧ Mem B [] w0 Z0 ((.own tyJob 110 ao1 cap2 (sinsS u0 u1 u2 u3)) :: Rr) Z' w' :=
  (sins_walk u0 u1 u2 u3 ao1 cap2 fid3 caps4 B w0 Z0 Rr Z w hf5 hg6 hM0 hZ (sins_ok2 u0 u1 u2 u3 hpre)).mono fun _ _ ⟨r, h0, he, hk, f0, f1, hm⟩ => by subst hk; exact ⟨h0, he, f0, f1, hm⟩

theorem ssym_all : ∀ (n : Nat) (u0 : List Job) (u1 : Int) (u2 : Int) (u3 : Int) (u4 : Job → Job → Int), symMu u0 u1 u2 u3 u4 < n → symPre u0 u1 u2 u3 u4 → ∀ (ao1 : Option Addr) (cap2 : Nat) (fid3 : Nat) (caps4 : Array Value) (B : Nat) (w0 : World) (Z0 : Fz) (Rr : List Res) (Z : Fz) (w : World) (hf5 : ∀ (Z1 : Fz) (w1 : World), Z.le Z1 → Z1.on w1 → ∀ (x0 : Job) (x1 : Job), Calls Try.prog fid3 (#[.agg #[.int .i64 x0.task, .int .i64 x0.from_, .int .i64 x0.asked], .agg #[.int .i64 x1.task, .int .i64 x1.from_, .int .i64 x1.asked]] ++ caps4) w1 fun e w2 => e = .returned (.int .i64 (u4 x0 x1)) ∧ Below w1.heap.size w1 w2) (hg6 : ∀ x w, Sem.run Try.prog (callFunc fid3 x) w = .ok (.enter fid3 x) w) (hM0 : Mem B [] w0 Z0 ((.own tyJob 110 ao1 cap2 u0) :: Rr) Z w) (hZ : Z.on w), Calls Try.prog 112 #[.slice ao1 u0.length cap2, .int .i64 u1, .int .i64 u2, .int .i64 u3, .func (.func fid3) #[] caps4] w fun e w' => ∃ (Z' : Fz), e = .returned (.tuple #[]) ∧ Fz.le Z Z' ∧ ((segC2 u0 u1 u2 u3 u4).length = u0.length) ∧ Mem B [] w0 Z0 ((.own tyJob 110 ao1 cap2 (segC2 u0 u1 u2 u3 u4)) :: Rr) Z' w' := by
  intro n
  induction n with
  | zero => intro u0 u1 u2 u3 u4 h; exact absurd h (Nat.not_lt_zero _)
  | succ n ih =>
    intro u0 u1 u2 u3 u4 h hpre ao1 cap2 fid3 caps4 B w0 Z0 Rr Z w hf5 hg6 hM0 hZ
    exact (ssym_walk u0 u1 u2 u3 u4 ao1 cap2 fid3 caps4 B w0 Z0 Rr Z w hf5 hg6 hM0 hZ (fun u0' u1' u2' u3' u4' hc => ih u0' u1' u2' u3' u4' (by omega) hc.2) (ssym_ok u0 u1 u2 u3 u4 hpre)).mono fun _ _ ⟨r, h0, he, hk, f0, f1, hm⟩ => by subst hk; exact ⟨h0, he, f0, f1, hm⟩
theorem ssym_fun (u0 : List Job) (u1 : Int) (u2 : Int) (u3 : Int) (u4 : Job → Job → Int) (hpre : symPre u0 u1 u2 u3 u4) : ∀ (ao1 : Option Addr) (cap2 : Nat) (fid3 : Nat) (caps4 : Array Value) (B : Nat) (w0 : World) (Z0 : Fz) (Rr : List Res) (Z : Fz) (w : World) (hf5 : ∀ (Z1 : Fz) (w1 : World), Z.le Z1 → Z1.on w1 → ∀ (x0 : Job) (x1 : Job), Calls Try.prog fid3 (#[.agg #[.int .i64 x0.task, .int .i64 x0.from_, .int .i64 x0.asked], .agg #[.int .i64 x1.task, .int .i64 x1.from_, .int .i64 x1.asked]] ++ caps4) w1 fun e w2 => e = .returned (.int .i64 (u4 x0 x1)) ∧ Below w1.heap.size w1 w2) (hg6 : ∀ x w, Sem.run Try.prog (callFunc fid3 x) w = .ok (.enter fid3 x) w) (hM0 : Mem B [] w0 Z0 ((.own tyJob 110 ao1 cap2 u0) :: Rr) Z w) (hZ : Z.on w), Calls Try.prog 112 #[.slice ao1 u0.length cap2, .int .i64 u1, .int .i64 u2, .int .i64 u3, .func (.func fid3) #[] caps4] w fun e w' => ∃ (Z' : Fz), e = .returned (.tuple #[]) ∧ Fz.le Z Z' ∧ ((segC2 u0 u1 u2 u3 u4).length = u0.length) ∧ Mem B [] w0 Z0 ((.own tyJob 110 ao1 cap2 (segC2 u0 u1 u2 u3 u4)) :: Rr) Z' w' := ssym_all _ u0 u1 u2 u3 u4 (Nat.lt_succ_self _) hpre

set_option maxRecDepth 100000 in
set_option maxHeartbeats 0 in
theorem sstab_walk (u0 : List Job) (u1 : Int) (u2 : Job → Job → Int) (ao1 : Option Addr) (cap2 : Nat) (fid3 : Nat) (caps4 : Array Value) (B : Nat) (w0 : World) (Z0 : Fz) (Rr : List Res) (Z : Fz) (w : World) (hf5 : ∀ (Z1 : Fz) (w1 : World), Z.le Z1 → Z1.on w1 → ∀ (x0 : Job) (x1 : Job), Calls Try.prog fid3 (#[.agg #[.int .i64 x0.task, .int .i64 x0.from_, .int .i64 x0.asked], .agg #[.int .i64 x1.task, .int .i64 x1.from_, .int .i64 x1.asked]] ++ caps4) w1 fun e w2 => e = .returned (.int .i64 (u2 x0 x1)) ∧ Below w1.heap.size w1 w2) (hg6 : ∀ x w, Sem.run Try.prog (callFunc fid3 x) w = .ok (.enter fid3 x) w) (hM0 : Mem B [] w0 Z0 ((.own tyJob 110 ao1 cap2 u0) :: Rr) Z w) (hZ : Z.on w) {K : (List Job) → Prop} (hp : sstab_vc u0 u1 u2 K) : Calls Try.prog 86 #[.slice ao1 u0.length cap2, .int .i64 u1, .func (.func fid3) #[] caps4] w fun e w' => ∃ (r : (List Job)) (Z' : Fz), e = .returned (.tuple #[]) ∧ K r ∧ Fz.le Z Z' ∧ (r.length = u0.length) ∧ Mem B [] w0 Z0 ((.own tyJob 110 ao1 cap2 r) :: Rr) Z' w' := by
 refine enter0 Try.func86 rfl rfl (by kernel_rfl) ?_; intro a0 hF0; have hle0 := Fz.le.refl Z
 have hp7 := hp (hM0.ownSmall 0 rfl); clear hp
 refine sqH ?_; intro hQ8Q hQ8
 refine s1 hF0 6 (.int .i64 20) ?_; intro a9 hF10; clear hF0
 refine nlH (hQ8 _ _ ?_); clear hQ8 hQ8Q
 refine sqH ?_; intro hQ11Q hQ11
 refine s1 hF10 10 (.int .i64 20) ?_; intro a12 hF13; clear hF10
 refine s1 hF13 7 (.int .i64 0) ?_; intro a14 hF15; clear hF13
 refine s1 hF15 8 (.int .i64 20) ?_; intro a16 hF17; clear hF15
 refine nlH (hQ11 _ _ ?_); clear hQ11 hQ11Q
 refine wp_seq ?_
 refine wp_block ?_
 have hF18 : Fr 63 [] [⟨0, [], .slice ao1 u0.length cap2⟩, ⟨1, [], .int .i64 u1⟩, ⟨2, [], .func (.func fid3) #[] caps4⟩, ⟨6, [], .int .i64 20⟩, ⟨7, [], .int .i64 0⟩, ⟨8, [], .int .i64 20⟩] a16 := hF17.region (by kernel_rfl) (by kernel_rfl); clear hF17
 have hF20 : Fr 63 [] [⟨0, [], .slice ao1 u0.length cap2⟩, ⟨1, [], .int .i64 u1⟩, ⟨2, [], .func (.func fid3) #[] caps4⟩, ⟨6, [], .int .i64 20⟩, ⟨7, [], .int .i64 0⟩, ⟨8, [], .int .i64 20⟩] a16 := hF18.region (by kernel_rfl) (by kernel_rfl); clear hF18
 obtain ⟨inv19, mu19, hI23, hr22⟩ := hp7
 have hle24 := hle0
 refine lp (ι := Int × Int × (List Job) × Fz) (fun (s : Int × Int × (List Job) × Fz) => [⟨0, [], .slice ao1 s.2.2.1.length cap2⟩, ⟨1, [], .int .i64 u1⟩, ⟨2, [], .func (.func fid3) #[] caps4⟩, ⟨6, [], .int .i64 20⟩, ⟨7, [], .int .i64 s.1⟩, ⟨8, [], .int .i64 s.2.1⟩]) (fun (s : Int × Int × (List Job) × Fz) => ((.own tyJob 110 ao1 cap2 s.2.2.1) :: Rr)) (fun (s : Int × Int × (List Job) × Fz) => s.2.2.2) (fun (s : Int × Int × (List Job) × Fz) => inv19 s.1 s.2.1 s.2.2.1 ∧ Fz.le Z s.2.2.2) (fun (s : Int × Int × (List Job) × Fz) => mu19 s.1 s.2.1 s.2.2.1) ⟨0, 20, u0, Z⟩ ⟨hI23, Fz.le.refl _⟩ (by exact hF20.region (by kernel_rfl) (by kernel_rfl)) (by exact hM0) ?_
 rintro ⟨x7, x8, zao1, ZL19⟩ ⟨hI21, hleL19⟩ a25 wd26 hF27 hM28
 have hF29 : Fr 63 [] [⟨0, [], .slice ao1 zao1.length cap2⟩, ⟨1, [], .int .i64 u1⟩, ⟨2, [], .func (.func fid3) #[] caps4⟩, ⟨6, [], .int .i64 20⟩, ⟨7, [], .int .i64 x7⟩, ⟨8, [], .int .i64 x8⟩] a25 := hF27; clear hF27 hF20
 have hM30 : Mem B [] w0 Z0 ((.own tyJob 110 ao1 cap2 zao1) :: Rr) ZL19 wd26 := hM28; clear hM28 hM0
 have hp31 := hr22 x7 x8 zao1 hI21
 replace hle0 := Fz.le.trans hle0 hleL19
 refine wp_seq ?_
 refine sqH ?_; intro hQ32Q hQ32
 refine s1 hF29 11 (.int .i64 x8) ?_; intro a33 hF34; clear hF29
 refine s1 hF34 12 (.int .i64 u1) ?_; intro a35 hF36; clear hF34
 refine s1 hF36 13 (.bool (decide (x8 ≤ u1))) ?_; intro a37 hF38; clear hF36
 refine nlH (hQ32 _ _ ?_); clear hQ32 hQ32Q
 refine cd hF38 (t := decide (x8 ≤ u1)) (by kernel_rfl) (fun hb39 => ?_) (fun hb39 => ?_)
 · -- yes
  have hp40 := hp31.1 hb39; clear hp31
  refine wp_skip ?_
  refine thn ?_
  refine wp_block ?_
  refine sqH ?_; intro hQ41Q hQ41
  refine s1 hF38 14 (.slice ao1 zao1.length cap2) ?_; intro a42 hF43; clear hF38
  refine s1 hF43 15 (.int .i64 x7) ?_; intro a44 hF45; clear hF43
  refine s1 hF45 16 (.int .i64 x8) ?_; intro a46 hF47; clear hF45
  refine s1 hF47 17 (.func (.func fid3) #[] caps4) ?_; intro a48 hF49; clear hF47
  have hc50 := hp40.1; have hp51 := hp40.2; clear hp40
  refine cl hF49 111 #[.slice ao1 zao1.length cap2, .int .i64 x7, .int .i64 x8, .func (.func fid3) #[] caps4] (nog rfl _) rfl (by kernel_rfl) (by kernel_rfl) ?_
  refine (sins_fun zao1 x7 x8 u2 hc50 ao1 cap2 fid3 caps4 _ _ _ _ _ _ (fun Z1 w1 h1 h2 => hf5 Z1 w1 (hle0.trans h1) h2) hg6 hM30 hM30.fz).mono ?_; rintro _ wd52 ⟨Z57, rfl, hle58, hl56, hm⟩; refine ⟨_, rfl, ?_⟩; intro a53 hF54; have hM55 := hm; clear hm hM30 hF49
  replace hleL19 := hleL19.mono hle58
  replace hle0 := Fz.le.trans hle0 hle58
  have hF59 : Fr 63 [] [⟨0, [], .slice ao1 (sinsS zao1 x7 x8 u2).length cap2⟩, ⟨1, [], .int .i64 u1⟩, ⟨2, [], .func (.func fid3) #[] caps4⟩, ⟨6, [], .int .i64 20⟩, ⟨7, [], .int .i64 x7⟩, ⟨8, [], .int .i64 x8⟩, ⟨11, [], .int .i64 x8⟩, ⟨12, [], .int .i64 u1⟩, ⟨13, [], .bool (decide (x8 ≤ u1))⟩, ⟨14, [], .slice ao1 (sinsS zao1 x7 x8 u2).length cap2⟩, ⟨15, [], .int .i64 x7⟩, ⟨16, [], .int .i64 x8⟩, ⟨17, [], .func (.func fid3) #[] caps4⟩, ⟨18, [], .tuple #[]⟩] a53 := by rw [hl56]; exact hF54.region (by kernel_rfl) (by kernel_rfl)
  clear hF54
  have hM60 : Mem B [] w0 Z0 ((.own tyJob 110 ao1 cap2 (sinsS zao1 x7 x8 u2)) :: Rr) Z57 wd52 := hM55; clear hM55
  have hp61 := hp51 (hM60.ownSmall 0 rfl); clear hp51
  refine nlH (hQ41 _ _ ?_); clear hQ41 hQ41Q
  refine sqH ?_; intro hQ62Q hQ62
  refine s1 hF59 19 (.int .i64 x8) ?_; intro a63 hF64; clear hF59
  refine s1 hF64 7 (.int .i64 x8) ?_; intro a65 hF66; clear hF64
  refine nlH (hQ62 _ _ ?_); clear hQ62 hQ62Q
  refine rgH ?_; intro hQ67Q hQ67
  refine s1 hF66 20 (.int .i64 x8) ?_; intro a68 hF69; clear hF66
  refine s1 hF69 21 (.int .i64 20) ?_; intro a70 hF71; clear hF69
  refine s1 hF71 22 (.int .i64 (w64 (x8 + 20))) ?_; intro a72 hF73; clear hF71
  refine s1 hF73 8 (.int .i64 (w64 (x8 + 20))) ?_; intro a74 hF75; clear hF73
  refine nlH (hQ67 _ _ ?_); clear hQ67 hQ67Q
  refine ibn ?_
  refine rd ?_
  exact ⟨⟨x8, w64 (x8 + 20), (sinsS zao1 x7 x8 u2), Z57⟩, ⟨hp61.1, hleL19⟩, hp61.2, (hF75.region (by kernel_rfl) (by kernel_rfl)).anyβ _ (by kernel_rfl), hM60.keep (List.Sublist.cons_cons _ (List.Sublist.refl _))⟩
 · -- no
  have hp76 := hp31.2 hb39; clear hp31
  refine wp_exit ?_
  refine thx ?_
  refine thx ?_
  refine ibx ?_
  refine thn ?_
  refine sqH ?_; intro hQ77Q hQ77
  refine s1 hF38 23 (.slice ao1 zao1.length cap2) ?_; intro a78 hF79; clear hF38
  refine s1 hF79 24 (.int .i64 x7) ?_; intro a80 hF81; clear hF79
  refine s1 hF81 25 (.int .i64 u1) ?_; intro a82 hF83; clear hF81
  refine s1 hF83 26 (.func (.func fid3) #[] caps4) ?_; intro a84 hF85; clear hF83
  have hc86 := hp76.1; have hp87 := hp76.2; clear hp76
  refine cl hF85 111 #[.slice ao1 zao1.length cap2, .int .i64 x7, .int .i64 u1, .func (.func fid3) #[] caps4] (nog rfl _) rfl (by kernel_rfl) (by kernel_rfl) ?_
  refine (sins_fun zao1 x7 u1 u2 hc86 ao1 cap2 fid3 caps4 _ _ _ _ _ _ (fun Z1 w1 h1 h2 => hf5 Z1 w1 (hle0.trans h1) h2) hg6 hM30 hM30.fz).mono ?_; rintro _ wd88 ⟨Z93, rfl, hle94, hl92, hm⟩; refine ⟨_, rfl, ?_⟩; intro a89 hF90; have hM91 := hm; clear hm hM30 hF85
  replace hleL19 := hleL19.mono hle94
  replace hle0 := Fz.le.trans hle0 hle94
  have hF95 : Fr 63 [] [⟨0, [], .slice ao1 (sinsS zao1 x7 u1 u2).length cap2⟩, ⟨1, [], .int .i64 u1⟩, ⟨2, [], .func (.func fid3) #[] caps4⟩, ⟨6, [], .int .i64 20⟩, ⟨7, [], .int .i64 x7⟩, ⟨8, [], .int .i64 x8⟩, ⟨11, [], .int .i64 x8⟩, ⟨12, [], .int .i64 u1⟩, ⟨13, [], .bool (decide (x8 ≤ u1))⟩, ⟨23, [], .slice ao1 (sinsS zao1 x7 u1 u2).length cap2⟩, ⟨24, [], .int .i64 x7⟩, ⟨25, [], .int .i64 u1⟩, ⟨26, [], .func (.func fid3) #[] caps4⟩, ⟨27, [], .tuple #[]⟩] a89 := by rw [hl92]; exact hF90.region (by kernel_rfl) (by kernel_rfl)
  clear hF90
  have hM96 : Mem B [] w0 Z0 ((.own tyJob 110 ao1 cap2 (sinsS zao1 x7 u1 u2)) :: Rr) Z93 wd88 := hM91; clear hM91
  have hp97 := hp87 (hM96.ownSmall 0 rfl); clear hp87
  refine nlH (hQ77 _ _ ?_); clear hQ77 hQ77Q
  refine wp_block ?_
  have hF98 : Fr 63 [] [⟨0, [], .slice ao1 (sinsS zao1 x7 u1 u2).length cap2⟩, ⟨1, [], .int .i64 u1⟩, ⟨2, [], .func (.func fid3) #[] caps4⟩, ⟨6, [], .int .i64 20⟩] a89 := hF95.region (by kernel_rfl) (by kernel_rfl); clear hF95
  have hF100 : Fr 63 [] [⟨0, [], .slice ao1 (sinsS zao1 x7 u1 u2).length cap2⟩, ⟨1, [], .int .i64 u1⟩, ⟨2, [], .func (.func fid3) #[] caps4⟩, ⟨6, [], .int .i64 20⟩] a89 := hF98.region (by kernel_rfl) (by kernel_rfl); clear hF98
  obtain ⟨inv99, mu99, hI103, hr102⟩ := hp97
  have hle104 := hle0
  refine lp (ι := Int × (List Job) × Fz) (fun (s : Int × (List Job) × Fz) => [⟨0, [], .slice ao1 s.2.1.length cap2⟩, ⟨1, [], .int .i64 u1⟩, ⟨2, [], .func (.func fid3) #[] caps4⟩, ⟨6, [], .int .i64 s.1⟩]) (fun (s : Int × (List Job) × Fz) => ((.own tyJob 110 ao1 cap2 s.2.1) :: Rr)) (fun (s : Int × (List Job) × Fz) => s.2.2) (fun (s : Int × (List Job) × Fz) => inv99 s.1 s.2.1 ∧ Fz.le Z93 s.2.2) (fun (s : Int × (List Job) × Fz) => mu99 s.1 s.2.1) ⟨20, (sinsS zao1 x7 u1 u2), Z93⟩ ⟨hI103, Fz.le.refl _⟩ (by exact hF100.region (by kernel_rfl) (by kernel_rfl)) (by exact hM96) ?_
  rintro ⟨x6, zao1v, ZL99⟩ ⟨hI101, hleL99⟩ a105 wd106 hF107 hM108
  have hF109 : Fr 63 [] [⟨0, [], .slice ao1 zao1v.length cap2⟩, ⟨1, [], .int .i64 u1⟩, ⟨2, [], .func (.func fid3) #[] caps4⟩, ⟨6, [], .int .i64 x6⟩] a105 := hF107; clear hF107 hF100
  have hM110 : Mem B [] w0 Z0 ((.own tyJob 110 ao1 cap2 zao1v) :: Rr) ZL99 wd106 := hM108; clear hM108 hM96
  have hp111 := hr102 x6 zao1v hI101
  replace hle0 := Fz.le.trans hle0 hleL99
  have hs112 := hleL19.mono hleL99
  refine wp_seq ?_
  refine sqH ?_; intro hQ113Q hQ113
  refine s1 hF109 28 (.int .i64 x6) ?_; intro a114 hF115; clear hF109
  refine s1 hF115 29 (.int .i64 u1) ?_; intro a116 hF117; clear hF115
  refine s1 hF117 30 (.bool (decide (x6 < u1))) ?_; intro a118 hF119; clear hF117
  refine nlH (hQ113 _ _ ?_); clear hQ113 hQ113Q
  refine cd hF119 (t := decide (x6 < u1)) (by kernel_rfl) (fun hb120 => ?_) (fun hb120 => ?_)
  · -- yes
   have hp121 := hp111.1 hb120; clear hp111
   refine wp_skip ?_
   refine thn ?_
   refine wp_block ?_
   refine sqH ?_; intro hQ122Q hQ122
   refine s1 hF119 31 (.int .i64 x6) ?_; intro a123 hF124; clear hF119
   refine s1 hF124 32 (.int .i64 (w64 (2 * x6))) ?_; intro a125 hF126; clear hF124
   refine s1 hF126 7 (.int .i64 0) ?_; intro a127 hF128; clear hF126
   refine s1 hF128 8 (.int .i64 (w64 (2 * x6))) ?_; intro a129 hF130; clear hF128
   refine nlH (hQ122 _ _ ?_); clear hQ122 hQ122Q
   refine wp_seq ?_
   refine wp_block ?_
   have hF131 : Fr 63 [] [⟨0, [], .slice ao1 zao1v.length cap2⟩, ⟨1, [], .int .i64 u1⟩, ⟨2, [], .func (.func fid3) #[] caps4⟩, ⟨6, [], .int .i64 x6⟩, ⟨7, [], .int .i64 0⟩, ⟨8, [], .int .i64 (w64 (2 * x6))⟩] a129 := hF130.region (by kernel_rfl) (by kernel_rfl); clear hF130
   have hF133 : Fr 63 [] [⟨0, [], .slice ao1 zao1v.length cap2⟩, ⟨1, [], .int .i64 u1⟩, ⟨2, [], .func (.func fid3) #[] caps4⟩, ⟨6, [], .int .i64 x6⟩, ⟨7, [], .int .i64 0⟩, ⟨8, [], .int .i64 (w64 (2 * x6))⟩] a129 := hF131.region (by kernel_rfl) (by kernel_rfl); clear hF131
   obtain ⟨inv132, mu132, hI136, hr135⟩ := hp121
   have hle137 := hle0
   refine lp (ι := Int × Int × (List Job) × Fz) (fun (s : Int × Int × (List Job) × Fz) => [⟨0, [], .slice ao1 s.2.2.1.length cap2⟩, ⟨1, [], .int .i64 u1⟩, ⟨2, [], .func (.func fid3) #[] caps4⟩, ⟨6, [], .int .i64 x6⟩, ⟨7, [], .int .i64 s.1⟩, ⟨8, [], .int .i64 s.2.1⟩]) (fun (s : Int × Int × (List Job) × Fz) => ((.own tyJob 110 ao1 cap2 s.2.2.1) :: Rr)) (fun (s : Int × Int × (List Job) × Fz) => s.2.2.2) (fun (s : Int × Int × (List Job) × Fz) => inv132 s.1 s.2.1 s.2.2.1 ∧ Fz.le ZL99 s.2.2.2) (fun (s : Int × Int × (List Job) × Fz) => mu132 s.1 s.2.1 s.2.2.1) ⟨0, w64 (2 * x6), zao1v, ZL99⟩ ⟨hI136, Fz.le.refl _⟩ (by exact hF133.region (by kernel_rfl) (by kernel_rfl)) (by exact hM110) ?_
   rintro ⟨x7v, x8v, zao1vv, ZL132⟩ ⟨hI134, hleL132⟩ a138 wd139 hF140 hM141
   have hF142 : Fr 63 [] [⟨0, [], .slice ao1 zao1vv.length cap2⟩, ⟨1, [], .int .i64 u1⟩, ⟨2, [], .func (.func fid3) #[] caps4⟩, ⟨6, [], .int .i64 x6⟩, ⟨7, [], .int .i64 x7v⟩, ⟨8, [], .int .i64 x8v⟩] a138 := hF140; clear hF140 hF133
   have hM143 : Mem B [] w0 Z0 ((.own tyJob 110 ao1 cap2 zao1vv) :: Rr) ZL132 wd139 := hM141; clear hM141 hM110
   have hp144 := hr135 x7v x8v zao1vv hI134
   replace hle0 := Fz.le.trans hle0 hleL132
   have hs145 := hs112.mono hleL132
   have hs146 := hleL99.mono hleL132
   refine wp_seq ?_
   refine sqH ?_; intro hQ147Q hQ147
   refine s1 hF142 33 (.int .i64 x8v) ?_; intro a148 hF149; clear hF142
   refine s1 hF149 34 (.int .i64 u1) ?_; intro a150 hF151; clear hF149
   refine s1 hF151 35 (.bool (decide (x8v ≤ u1))) ?_; intro a152 hF153; clear hF151
   refine nlH (hQ147 _ _ ?_); clear hQ147 hQ147Q
   refine cd hF153 (t := decide (x8v ≤ u1)) (by kernel_rfl) (fun hb154 => ?_) (fun hb154 => ?_)
   · -- yes
    have hp155 := hp144.1 hb154; clear hp144
    refine wp_skip ?_
    refine thn ?_
    refine wp_block ?_
    refine sqH ?_; intro hQ156Q hQ156
    refine s1 hF153 36 (.slice ao1 zao1vv.length cap2) ?_; intro a157 hF158; clear hF153
    refine s1 hF158 37 (.int .i64 x7v) ?_; intro a159 hF160; clear hF158
    refine s1 hF160 38 (.int .i64 x7v) ?_; intro a161 hF162; clear hF160
    refine s1 hF162 39 (.int .i64 x6) ?_; intro a163 hF164; clear hF162
    refine s1 hF164 40 (.int .i64 (w64 (x7v + x6))) ?_; intro a165 hF166; clear hF164
    refine s1 hF166 41 (.int .i64 x8v) ?_; intro a167 hF168; clear hF166
    refine s1 hF168 42 (.func (.func fid3) #[] caps4) ?_; intro a169 hF170; clear hF168
    have hc171 := hp155.1; have hp172 := hp155.2; clear hp155
    refine cl hF170 112 #[.slice ao1 zao1vv.length cap2, .int .i64 x7v, .int .i64 (w64 (x7v + x6)), .int .i64 x8v, .func (.func fid3) #[] caps4] (nog rfl _) rfl (by kernel_rfl) (by kernel_rfl) ?_
    refine (ssym_fun zao1vv x7v (w64 (x7v + x6)) x8v u2 hc171 ao1 cap2 fid3 caps4 _ _ _ _ _ _ (fun Z1 w1 h1 h2 => hf5 Z1 w1 (hle0.trans h1) h2) hg6 hM143 hM143.fz).mono ?_; rintro _ wd173 ⟨Z178, rfl, hle179, hl177, hm⟩; refine ⟨_, rfl, ?_⟩; intro a174 hF175; have hM176 := hm; clear hm hM143 hF170
    replace hs145 := hs145.mono hle179
    replace hs146 := hs146.mono hle179
    replace hleL132 := hleL132.mono hle179
    replace hle0 := Fz.le.trans hle0 hle179
    have hF180 : Fr 63 [] [⟨0, [], .slice ao1 (segC2 zao1vv x7v (w64 (x7v + x6)) x8v u2).length cap2⟩, ⟨1, [], .int .i64 u1⟩, ⟨2, [], .func (.func fid3) #[] caps4⟩, ⟨6, [], .int .i64 x6⟩, ⟨7, [], .int .i64 x7v⟩, ⟨8, [], .int .i64 x8v⟩, ⟨33, [], .int .i64 x8v⟩, ⟨34, [], .int .i64 u1⟩, ⟨35, [], .bool (decide (x8v ≤ u1))⟩, ⟨36, [], .slice ao1 (segC2 zao1vv x7v (w64 (x7v + x6)) x8v u2).length cap2⟩, ⟨37, [], .int .i64 x7v⟩, ⟨38, [], .int .i64 x7v⟩, ⟨39, [], .int .i64 x6⟩, ⟨40, [], .int .i64 (w64 (x7v + x6))⟩, ⟨41, [], .int .i64 x8v⟩, ⟨42, [], .func (.func fid3) #[] caps4⟩, ⟨43, [], .tuple #[]⟩] a174 := by rw [hl177]; exact hF175.region (by kernel_rfl) (by kernel_rfl)
    clear hF175
    have hM181 : Mem B [] w0 Z0 ((.own tyJob 110 ao1 cap2 (segC2 zao1vv x7v (w64 (x7v + x6)) x8v u2)) :: Rr) Z178 wd173 := hM176; clear hM176
    have hp182 := hp172 (hM181.ownSmall 0 rfl); clear hp172
    refine nlH (hQ156 _ _ ?_); clear hQ156 hQ156Q
    refine sqH ?_; intro hQ183Q hQ183
    refine s1 hF180 44 (.int .i64 x8v) ?_; intro a184 hF185; clear hF180
    refine s1 hF185 7 (.int .i64 x8v) ?_; intro a186 hF187; clear hF185
    refine nlH (hQ183 _ _ ?_); clear hQ183 hQ183Q
    refine rgH ?_; intro hQ188Q hQ188
    refine s1 hF187 45 (.int .i64 x8v) ?_; intro a189 hF190; clear hF187
    refine s1 hF190 46 (.int .i64 x6) ?_; intro a191 hF192; clear hF190
    refine s1 hF192 47 (.int .i64 (w64 (2 * x6))) ?_; intro a193 hF194; clear hF192
    refine s1 hF194 48 (.int .i64 (w64 (x8v + (w64 (2 * x6))))) ?_; intro a195 hF196; clear hF194
    refine s1 hF196 8 (.int .i64 (w64 (x8v + (w64 (2 * x6))))) ?_; intro a197 hF198; clear hF196
    refine nlH (hQ188 _ _ ?_); clear hQ188 hQ188Q
    refine ibn ?_
    refine rd ?_
    exact ⟨⟨x8v, w64 (x8v + (w64 (2 * x6))), (segC2 zao1vv x7v (w64 (x7v + x6)) x8v u2), Z178⟩, ⟨hp182.1, hleL132⟩, hp182.2, (hF198.region (by kernel_rfl) (by kernel_rfl)).anyβ _ (by kernel_rfl), hM181.keep (List.Sublist.cons_cons _ (List.Sublist.refl _))⟩
   · -- no
    have hp199 := hp144.2 hb154; clear hp144
    refine wp_exit ?_
    refine thx ?_
    refine thx ?_
    refine ibx ?_
    refine thn ?_
    refine wp_seq ?_
    refine sqH ?_; intro hQ200Q hQ200
    refine s1 hF153 49 (.int .i64 x7v) ?_; intro a201 hF202; clear hF153
    refine s1 hF202 50 (.int .i64 x6) ?_; intro a203 hF204; clear hF202
    refine s1 hF204 51 (.int .i64 (w64 (x7v + x6))) ?_; intro a205 hF206; clear hF204
    refine s1 hF206 9 (.int .i64 (w64 (x7v + x6))) ?_; intro a207 hF208; clear hF206
    refine nlH (hQ200 _ _ ?_); clear hQ200 hQ200Q
    refine sqH ?_; intro hQ209Q hQ209
    refine s1 hF208 52 (.int .i64 (w64 (x7v + x6))) ?_; intro a210 hF211; clear hF208
    refine s1 hF211 53 (.int .i64 u1) ?_; intro a212 hF213; clear hF211
    refine s1 hF213 54 (.bool (decide ((w64 (x7v + x6)) < u1))) ?_; intro a214 hF215; clear hF213
    refine nlH (hQ209 _ _ ?_); clear hQ209 hQ209Q
    refine cd hF215 (t := decide ((w64 (x7v + x6)) < u1)) (by kernel_rfl) (fun hb216 => ?_) (fun hb216 => ?_)
    · -- yes
     have hp217 := hp199.1 hb216; clear hp199
     refine rgH ?_; intro hQ218Q hQ218
     refine s1 hF215 55 (.slice ao1 zao1vv.length cap2) ?_; intro a219 hF220; clear hF215
     refine s1 hF220 56 (.int .i64 x7v) ?_; intro a221 hF222; clear hF220
     refine s1 hF222 57 (.int .i64 (w64 (x7v + x6))) ?_; intro a223 hF224; clear hF222
     refine s1 hF224 58 (.int .i64 u1) ?_; intro a225 hF226; clear hF224
     refine s1 hF226 59 (.func (.func fid3) #[] caps4) ?_; intro a227 hF228; clear hF226
     have hc229 := hp217.1; have hp230 := hp217.2; clear hp217
     refine cl hF228 112 #[.slice ao1 zao1vv.length cap2, .int .i64 x7v, .int .i64 (w64 (x7v + x6)), .int .i64 u1, .func (.func fid3) #[] caps4] (nog rfl _) rfl (by kernel_rfl) (by kernel_rfl) ?_
     refine (ssym_fun zao1vv x7v (w64 (x7v + x6)) u1 u2 hc229 ao1 cap2 fid3 caps4 _ _ _ _ _ _ (fun Z1 w1 h1 h2 => hf5 Z1 w1 (hle0.trans h1) h2) hg6 hM143 hM143.fz).mono ?_; rintro _ wd231 ⟨Z236, rfl, hle237, hl235, hm⟩; refine ⟨_, rfl, ?_⟩; intro a232 hF233; have hM234 := hm; clear hm hM143 hF228
     replace hs145 := hs145.mono hle237
     replace hs146 := hs146.mono hle237
     replace hleL132 := hleL132.mono hle237
     replace hle0 := Fz.le.trans hle0 hle237
     have hF238 : Fr 63 [] [⟨0, [], .slice ao1 (segC2 zao1vv x7v (w64 (x7v + x6)) u1 u2).length cap2⟩, ⟨1, [], .int .i64 u1⟩, ⟨2, [], .func (.func fid3) #[] caps4⟩, ⟨6, [], .int .i64 x6⟩, ⟨7, [], .int .i64 x7v⟩, ⟨8, [], .int .i64 x8v⟩, ⟨9, [], .int .i64 (w64 (x7v + x6))⟩, ⟨33, [], .int .i64 x8v⟩, ⟨34, [], .int .i64 u1⟩, ⟨35, [], .bool (decide (x8v ≤ u1))⟩, ⟨49, [], .int .i64 x7v⟩, ⟨50, [], .int .i64 x6⟩, ⟨51, [], .int .i64 (w64 (x7v + x6))⟩, ⟨52, [], .int .i64 (w64 (x7v + x6))⟩, ⟨53, [], .int .i64 u1⟩, ⟨54, [], .bool (decide ((w64 (x7v + x6)) < u1))⟩, ⟨55, [], .slice ao1 (segC2 zao1vv x7v (w64 (x7v + x6)) u1 u2).length cap2⟩, ⟨56, [], .int .i64 x7v⟩, ⟨57, [], .int .i64 (w64 (x7v + x6))⟩, ⟨58, [], .int .i64 u1⟩, ⟨59, [], .func (.func fid3) #[] caps4⟩, ⟨60, [], .tuple #[]⟩] a232 := by rw [hl235]; exact hF233.region (by kernel_rfl) (by kernel_rfl)
     clear hF233
     have hM239 : Mem B [] w0 Z0 ((.own tyJob 110 ao1 cap2 (segC2 zao1vv x7v (w64 (x7v + x6)) u1 u2)) :: Rr) Z236 wd231 := hM234; clear hM234
     have hp240 := hp230 (hM239.ownSmall 0 rfl); clear hp230
     refine nlH (hQ218 _ _ ?_); clear hQ218 hQ218Q
     refine thn ?_
     have hF241 : Fr 63 [] [⟨0, [], .slice ao1 (segC2 zao1vv x7v (w64 (x7v + x6)) u1 u2).length cap2⟩, ⟨1, [], .int .i64 u1⟩, ⟨2, [], .func (.func fid3) #[] caps4⟩, ⟨6, [], .int .i64 x6⟩] a232 := hF238.region (by kernel_rfl) (by kernel_rfl); clear hF238
     refine rgH ?_; intro hQ242Q hQ242
     refine s1 hF241 61 (.int .i64 x6) ?_; intro a243 hF244; clear hF241
     refine s1 hF244 62 (.int .i64 (w64 (x6 * 2))) ?_; intro a245 hF246; clear hF244
     refine s1 hF246 6 (.int .i64 (w64 (x6 * 2))) ?_; intro a247 hF248; clear hF246
     refine nlH (hQ242 _ _ ?_); clear hQ242 hQ242Q
     refine ibn ?_
     refine rd ?_
     exact ⟨⟨w64 (x6 * 2), (segC2 zao1vv x7v (w64 (x7v + x6)) u1 u2), Z236⟩, ⟨hp240.1, hs146⟩, hp240.2, (hF248.region (by kernel_rfl) (by kernel_rfl)).anyβ _ (by kernel_rfl), hM239.keep (List.Sublist.cons_cons _ (List.Sublist.refl _))⟩
    · -- no
     have hp249 := hp199.2 hb216; clear hp199
     refine wp_skip ?_
     refine thn ?_
     refine rgH ?_; intro hQ250Q hQ250
     refine s1 hF215 61 (.int .i64 x6) ?_; intro a251 hF252; clear hF215
     refine s1 hF252 62 (.int .i64 (w64 (x6 * 2))) ?_; intro a253 hF254; clear hF252
     refine s1 hF254 6 (.int .i64 (w64 (x6 * 2))) ?_; intro a255 hF256; clear hF254
     refine nlH (hQ250 _ _ ?_); clear hQ250 hQ250Q
     refine ibn ?_
     refine rd ?_
     exact ⟨⟨w64 (x6 * 2), zao1vv, ZL132⟩, ⟨hp249.1, hs146⟩, hp249.2, (hF256.region (by kernel_rfl) (by kernel_rfl)).anyβ _ (by kernel_rfl), hM143.keep (List.Sublist.cons_cons _ (List.Sublist.refl _))⟩
  · -- no
   have hp257 := hp111.2 hb120; clear hp111
   refine wp_exit ?_
   refine thx ?_
   refine thx ?_
   refine ibx ?_
   have hc258 := hp257.1; have hp259 := hp257.2; clear hp257
   refine rN (fn := Try.f86) (v := .tuple #[]) hF119 (re0 hF119 (fn := Try.f86) rfl) ?_
   exact ⟨zao1v, ZL99, rfl, hp259, hle0, hc258, hM110.keep (List.Sublist.cons_cons _ (List.Sublist.refl _))⟩

end Go.Proofs.Ytginlmgkimfjmaa
