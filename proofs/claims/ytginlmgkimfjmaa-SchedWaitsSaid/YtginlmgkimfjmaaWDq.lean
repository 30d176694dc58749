/- The walks, made by program: each call does what its pure predicate says. -/
import Derived.Test.YtginlmgkimfjmaaPDq
import Derived.Test.YtginlmgkimfjmaaWDp
set_option linter.unusedVariables false
set_option linter.unusedSimpArgs false
namespace Go.Proofs.Ytginlmgkimfjmaa
open Go.Sy Go.RowKit
theorem sstab_fun (u0 : List Job) (u1 : Int) (u2 : Job → Job → Int) (hpre : sstabPre u0 u1 u2) (ao1 : Option Addr) (cap2 : Nat) (fid3 : Nat) (caps4 : Array Value) (B : Nat) (w0 : World) (Z0 : Fz) (Rr : List Res) (Z : Fz) (w : World) (hf5 : ∀ (Z1 : Fz) (w1 : World), Z.le Z1 → Z1.on w1 → ∀ (x0 : Job) (x1 : Job), Calls Try.prog fid3 (#[.agg #[.int .i64 x0.task, .int .i64 x0.from_, .int .i64 x0.asked], .agg #[.int .i64 x1.task, .int .i64 x1.from_, .int .i64 x1.asked]] ++ caps4) w1 fun e w2 => e = .returned (.int .i64 (u2 x0 x1)) ∧ Below w1.heap.size w1 w2) (hg6 : ∀ x w, Sem.run Try.prog (callFunc fid3 x) w = .ok (.enter fid3 x) w) (hM0 : Mem B [] w0 Z0 ((.own tyJob 110 ao1 cap2 u0) :: Rr) Z w) (hZ : Z.on w) : Calls Try.prog 86 #[.slice ao1 u0.length cap2, .int .i64 u1, .func (.func fid3) #[] caps4] w fun e w' => ∃ (Z' : Fz), e = .returned (.tuple #[]) ∧ Fz.le Z Z' ∧ ((sstabS u0 u1 u2).length = u0.length) ∧ Mem B [] w0 Z0 ((.own tyJob 110 ao1 cap2 (sstabS u0 u1 u2)) :: Rr) Z' w' :=
  (sstab_walk u0 u1 u2 ao1 cap2 fid3 caps4 B w0 Z0 Rr Z w hf5 hg6 hM0 hZ (sstab_ok2 u0 u1 u2 hpre)).mono fun _ _ ⟨r, h0, he, hk, f0, f1, hm⟩ => by subst hk; exact ⟨h0, he, f0, f1, hm⟩

set_option maxRecDepth 100000 in
set_option maxHeartbeats 0 in
theorem ssort_walk (u0 : List Job) (u1 : Job → Job → Int) (ao1 : Option Addr) (cap2 : Nat) (fid3 : Nat) (caps4 : Array Value) (B : Nat) (w0 : World) (Z0 : Fz) (Rr : List Res) (Z : Fz) (w : World) (hf5 : ∀ (Z1 : Fz) (w1 : World), Z.le Z1 → Z1.on w1 → ∀ (x0 : Job) (x1 : Job), Calls Try.prog fid3 (#[.agg #[.int .i64 x0.task, .int .i64 x0.from_, .int .i64 x0.asked], .agg #[.int .i64 x1.task, .int .i64 x1.from_, .int .i64 x1.asked]] ++ caps4) w1 fun e w2 => e = .returned (.int .i64 (u1 x0 x1)) ∧ Below w1.heap.size w1 w2) (hg6 : ∀ x w, Sem.run Try.prog (callFunc fid3 x) w = .ok (.enter fid3 x) w) (hM0 : Mem B [] w0 Z0 ((.own tyJob 110 ao1 cap2 u0) :: Rr) Z w) (hZ : Z.on w) {K : (List Job) → Prop} (hp : ssort_vc u0 u1 K) : Calls Try.prog 51 #[.slice ao1 u0.length cap2, .func (.func fid3) #[] caps4] w fun e w' => ∃ (r : (List Job)) (Z' : Fz), e = .returned (.tuple #[]) ∧ K r ∧ Fz.le Z Z' ∧ (r.length = u0.length) ∧ Mem B [] w0 Z0 ((.own tyJob 110 ao1 cap2 r) :: Rr) Z' w' := by
 refine enter0 Try.func51 rfl rfl (by kernel_rfl) ?_; intro a0 hF0; have hle0 := Fz.le.refl Z
 have hp7 := hp (hM0.ownSmall 0 rfl); clear hp
 refine rgH ?_; intro hQ8Q hQ8
 refine s1 hF0 4 (.slice ao1 u0.length cap2) ?_; intro a9 hF10; clear hF0
 refine s1 hF10 5 (.slice ao1 u0.length cap2) ?_; intro a11 hF12; clear hF10
 refine s1 hF12 6 (.int .i64 (u0.length : Int)) ?_; intro a13 hF14; clear hF12
 refine s1 hF14 7 (.func (.func fid3) #[] caps4) ?_; intro a15 hF16; clear hF14
 have hc17 := hp7.1; have hp18 := hp7.2; clear hp7
 refine cl hF16 86 #[.slice ao1 u0.length cap2, .int .i64 (u0.length : Int), .func (.func fid3) #[] caps4] (nog rfl _) rfl (by kernel_rfl) (by kernel_rfl) ?_
 refine (sstab_fun u0 (u0.length : Int) u1 hc17 ao1 cap2 fid3 caps4 _ _ _ _ _ _ (fun Z1 w1 h1 h2 => hf5 Z1 w1 (hle0.trans h1) h2) hg6 hM0 hM0.fz).mono ?_; rintro _ wd19 ⟨Z24, rfl, hle25, hl23, hm⟩; refine ⟨_, rfl, ?_⟩; intro a20 hF21; have hM22 := hm; clear hm hM0 hF16
 replace hle0 := Fz.le.trans hle0 hle25
 have hF26 : Fr 9 [] [⟨0, [], .slice ao1 (sstabS u0 (u0.length : Int) u1).length cap2⟩, ⟨1, [], .func (.func fid3) #[] caps4⟩, ⟨4, [], .slice ao1 (sstabS u0 (u0.length : Int) u1).length cap2⟩, ⟨5, [], .slice ao1 (sstabS u0 (u0.length : Int) u1).length cap2⟩, ⟨6, [], .int .i64 (u0.length : Int)⟩, ⟨7, [], .func (.func fid3) #[] caps4⟩, ⟨8, [], .tuple #[]⟩] a20 := by rw [hl23]; exact hF21.region (by kernel_rfl) (by kernel_rfl)
 clear hF21
 have hM27 : Mem B [] w0 Z0 ((.own tyJob 110 ao1 cap2 (sstabS u0 (u0.length : Int) u1)) :: Rr) Z24 wd19 := hM22; clear hM22
 have hp28 := hp18 (hM27.ownSmall 0 rfl); clear hp18
 refine nlH (hQ8 _ _ ?_); clear hQ8 hQ8Q
 have hc29 := hp28.1; have hp30 := hp28.2; clear hp28
 refine rN (fn := Try.f51) (v := .tuple #[]) hF26 (re0 hF26 (fn := Try.f51) rfl) ?_
 exact ⟨(sstabS u0 (u0.length : Int) u1), Z24, rfl, hp30, hle0, hc29, hM27.keep (List.Sublist.cons_cons _ (List.Sublist.refl _))⟩

theorem sdel_fun (u0 : List Job) (u1 : Int) (u2 : Int) (hpre : 0 ≤ u1 ∧ u1 ≤ u2 ∧ u2 ≤ (u0.length : Int)) (ao1 : Option Addr) (cap2 : Nat) (B : Nat) (w0 : World) (Z0 : Fz) (Rr : List Res) (Z : Fz) (w : World) (hM0 : Mem B [] w0 Z0 ((.own tyJob 110 ao1 cap2 u0) :: Rr) Z w) (hZ : Z.on w) : Calls Try.prog 54 #[.slice ao1 u0.length cap2, .int .i64 u1, .int .i64 u2] w fun e w' => ∃ (ao1001 : Option Addr) (cap1002 : Nat) (Z' : Fz), e = .returned (.slice ao1001 (sdelS u0 u1 u2).length cap1002) ∧ Fz.le Z Z' ∧ Mem B [] w0 Z0 ((.own tyJob 110 ao1001 cap1002 (sdelS u0 u1 u2)) :: Rr) Z' w' :=
  (sdel_walk u0 u1 u2 ao1 cap2 B w0 Z0 Rr Z w hM0 hZ (sdel_ok u0 u1 u2 hpre)).mono fun _ _ ⟨r, h0, h1, h2, he, hk, f0, hm⟩ => by subst hk; exact ⟨h0, h1, h2, he, f0, hm⟩

set_option maxRecDepth 100000 in
set_option maxHeartbeats 0 in
theorem cmpj_walk (u0 : Job) (u1 : Job)  (Z : Fz) (w : World)  (hZ : Z.on w) {K : Int → Prop} (hp : cmpj_vc u0 u1 K) : Calls Try.prog 52 #[.agg #[.int .i64 u0.task, .int .i64 u0.from_, .int .i64 u0.asked], .agg #[.int .i64 u1.task, .int .i64 u1.from_, .int .i64 u1.asked]] w fun e w' => ∃ r : Int, e = .returned (.int .i64 r) ∧ K r ∧ Below w.heap.size w w' := by
 refine enter0 Try.func52 rfl rfl (by kernel_rfl) ?_; intro a0 hF0; have hM0 := Mem.start w Z hZ; have hle0 := Fz.le.refl Z
 refine sqH ?_; intro hQ1Q hQ1
 refine sn hF0 hM0 (fun b => .pointer (some ⟨b, 0, none⟩)) [.int .i64 u0.task, .int .i64 u0.from_, .int .i64 u0.asked] 110 (nog rfl _) rfl (by kernel_rfl) (by kernel_rfl) ?_; intro b2 a3 wd5 hF4 hM6; clear hF0 hM0
 refine sn hF4 hM6 (fun b => .pointer (some ⟨b, 0, none⟩)) [.int .i64 u1.task, .int .i64 u1.from_, .int .i64 u1.asked] 110 (nog rfl _) rfl (by kernel_rfl) (by kernel_rfl) ?_; intro b7 a8 wd10 hF9 hM11; clear hF4 hM6
 refine s1 hF9 4 (.int .i64 0) ?_; intro a12 hF13; clear hF9
 refine nlH (hQ1 _ _ ?_); clear hQ1 hQ1Q
 refine sqH ?_; intro hQ14Q hQ14
 refine s1 hF13 5 (.pointer (some ⟨b2, 2, none⟩)) ?_; intro a15 hF16; clear hF13
 refine l1 hF16 hM11 6 1 2 (.int .i64 u0.asked) rfl rfl ?_; intro a17 hF18; clear hF16
 refine s1 hF18 7 (.pointer (some ⟨b7, 2, none⟩)) ?_; intro a19 hF20; clear hF18
 refine l1 hF20 hM11 8 0 2 (.int .i64 u1.asked) rfl rfl ?_; intro a21 hF22; clear hF20
 refine s1 hF22 9 (.int .i64 (w64 (u0.asked - u1.asked))) ?_; intro a23 hF24; clear hF22
 refine s1 hF24 4 (.int .i64 (w64 (u0.asked - u1.asked))) ?_; intro a25 hF26; clear hF24
 refine nlH (hQ14 _ _ ?_); clear hQ14 hQ14Q
 refine wp_ret ?_
 refine rt (fn := Try.f52) (v := .int .i64 (w64 (u0.asked - u1.asked))) hF26 (re1 hF26 (fn := Try.f52) rfl (by kernel_rfl)) ?_
 exact ⟨w64 (u0.asked - u1.asked), rfl, hp, hM11.below⟩
theorem cmpj_fun (u0 : Job) (u1 : Job)  (Z : Fz) (w : World)  (hZ : Z.on w) : Calls Try.prog 52 #[.agg #[.int .i64 u0.task, .int .i64 u0.from_, .int .i64 u0.asked], .agg #[.int .i64 u1.task, .int .i64 u1.from_, .int .i64 u1.asked]] w fun e w' => e = .returned (.int .i64 (cmpj u0 u1)) ∧ Below w.heap.size w w' :=
  (cmpj_walk u0 u1  Z w  hZ (cmpj_ok u0 u1)).mono fun _ _ ⟨r, he, hk, hb⟩ => ⟨by subst hk; exact he, hb⟩

set_option maxRecDepth 100000 in
set_option maxHeartbeats 0 in
theorem ahead_walk (u0 : Job) (u1 : Job) (u2 : Int) (cb1 co2 : Nat) (Z : Fz) (w : World) (hP3 : PtR Z cb1 co2 [.int .i64 u2]) (hZ : Z.on w) {K : Bool → Prop} (hp : ahead_vc u0 u1 u2 K) : Calls Try.prog 53 #[.agg #[.int .i64 u0.task, .int .i64 u0.from_, .int .i64 u0.asked], .agg #[.int .i64 u1.task, .int .i64 u1.from_, .int .i64 u1.asked], .pointer (some ⟨cb1, co2, none⟩)] w fun e w' => ∃ r : Bool, e = .returned (.bool r) ∧ K r ∧ Below w.heap.size w w' := by
 refine enter0 Try.func53 rfl rfl (by kernel_rfl) ?_; intro a0 hF0; have hM0 := Mem.start w Z hZ; have hle0 := Fz.le.refl Z
 refine sqH ?_; intro hQ4Q hQ4
 refine sn hF0 hM0 (fun b => .pointer (some ⟨b, 0, none⟩)) [.int .i64 u0.task, .int .i64 u0.from_, .int .i64 u0.asked] 110 (nog rfl _) rfl (by kernel_rfl) (by kernel_rfl) ?_; intro b5 a6 wd8 hF7 hM9; clear hF0 hM0
 refine sn hF7 hM9 (fun b => .pointer (some ⟨b, 0, none⟩)) [.int .i64 u1.task, .int .i64 u1.from_, .int .i64 u1.asked] 110 (nog rfl _) rfl (by kernel_rfl) (by kernel_rfl) ?_; intro b10 a11 wd13 hF12 hM14; clear hF7 hM9
 refine s1 hF12 5 (.bool false) ?_; intro a15 hF16; clear hF12
 refine nlH (hQ4 _ _ ?_); clear hQ4 hQ4Q
 refine sqH ?_; intro hQ17Q hQ17
 refine s1 hF16 6 (.pointer (some ⟨b5, 2, none⟩)) ?_; intro a18 hF19; clear hF16
 refine l1 hF19 hM14 7 1 2 (.int .i64 u0.asked) rfl rfl ?_; intro a20 hF21; clear hF19
 refine z1 hF21 hM14 8 hP3 0 (.int .i64 u2) rfl ?_; intro a22 hF23; clear hF21
 refine s1 hF23 9 (.bool (decide (u0.asked ≤ u2))) ?_; intro a24 hF25; clear hF23
 refine s1 hF25 10 (.bool (decide (u0.asked ≤ u2))) ?_; intro a26 hF27; clear hF25
 have hF28 := hF27.atom ((decide (u0.asked ≤ u2)) == true) (by kernel_rfl); clear hF27
 refine gp hF28 11 0 [] (decide (u0.asked ≤ u2)) (.pointer (some ⟨b5, 0, none⟩)) rfl rfl ?_; intro a29 hF30; clear hF28
 refine gd hF30 (.int .i64 u0.task) (m := 0) (cj := []) (bj := decide (u0.asked ≤ u2)) rfl rfl (by kernel_rfl) rfl (by kernel_rfl) (by kernel_rfl) (by kernel_rfl) (fun hg => ld hF30 hM14 1 (g := [0]) (b := b5) (off := 0) (cs := [.int .i64 u0.task, .int .i64 u0.from_, .int .i64 u0.asked]) (ty := 110) rfl (by kernel_rfl) (by kernel_rfl) (by kernel_rfl) (by kernel_rfl) hg) ?_; intro a31 hF32; clear hF30
 refine gp hF32 13 0 [] (decide (u0.asked ≤ u2)) (.pointer (some ⟨b10, 0, none⟩)) rfl rfl ?_; intro a33 hF34; clear hF32
 refine gd hF34 (.int .i64 u1.task) (m := 0) (cj := []) (bj := decide (u0.asked ≤ u2)) rfl rfl (by kernel_rfl) rfl (by kernel_rfl) (by kernel_rfl) (by kernel_rfl) (fun hg => ld hF34 hM14 0 (g := [0]) (b := b10) (off := 0) (cs := [.int .i64 u1.task, .int .i64 u1.from_, .int .i64 u1.asked]) (ty := 110) rfl (by kernel_rfl) (by kernel_rfl) (by kernel_rfl) (by kernel_rfl) hg) ?_; intro a35 hF36; clear hF34
 refine gp hF36 15 0 [] (decide (u0.asked ≤ u2)) (.bool (decide (u0.task < u1.task))) rfl rfl ?_; intro a37 hF38; clear hF36
 refine gp hF38 16 0 [] (decide (u0.asked ≤ u2)) (.bool (decide (u0.task < u1.task))) rfl rfl ?_; intro a39 hF40; clear hF38
 have hF41 := hF40.atom ((decide (u0.task < u1.task)) == false) (by kernel_rfl); clear hF40
 refine gp hF41 17 1 [0] (decide (u0.task < u1.task)) (.pointer (some ⟨b5, 0, none⟩)) rfl rfl ?_; intro a42 hF43; clear hF41
 refine gd hF43 (.int .i64 u0.task) (m := 1) (cj := [0]) (bj := decide (u0.task < u1.task)) rfl rfl (by kernel_rfl) rfl (by kernel_rfl) (by kernel_rfl) (by kernel_rfl) (fun hg => ld hF43 hM14 1 (g := [1, 0]) (b := b5) (off := 0) (cs := [.int .i64 u0.task, .int .i64 u0.from_, .int .i64 u0.asked]) (ty := 110) rfl (by kernel_rfl) (by kernel_rfl) (by kernel_rfl) (by kernel_rfl) hg) ?_; intro a44 hF45; clear hF43
 refine gp hF45 19 1 [0] (decide (u0.task < u1.task)) (.pointer (some ⟨b10, 0, none⟩)) rfl rfl ?_; intro a46 hF47; clear hF45
 refine gd hF47 (.int .i64 u1.task) (m := 1) (cj := [0]) (bj := decide (u0.task < u1.task)) rfl rfl (by kernel_rfl) rfl (by kernel_rfl) (by kernel_rfl) (by kernel_rfl) (fun hg => ld hF47 hM14 0 (g := [1, 0]) (b := b10) (off := 0) (cs := [.int .i64 u1.task, .int .i64 u1.from_, .int .i64 u1.asked]) (ty := 110) rfl (by kernel_rfl) (by kernel_rfl) (by kernel_rfl) (by kernel_rfl) hg) ?_; intro a48 hF49; clear hF47
 refine gp hF49 21 1 [0] (decide (u0.task < u1.task)) (.bool (u0.task == u1.task)) rfl rfl ?_; intro a50 hF51; clear hF49
 refine gp hF51 22 1 [0] (decide (u0.task < u1.task)) (.bool (u0.task == u1.task)) rfl rfl ?_; intro a52 hF53; clear hF51
 have hF54 := hF53.atom ((u0.task == u1.task) == true) (by kernel_rfl); clear hF53
 refine gp hF54 23 2 [1, 0] (u0.task == u1.task) (.pointer (some ⟨b5, 1, none⟩)) rfl rfl ?_; intro a55 hF56; clear hF54
 refine gd hF56 (.int .i64 u0.from_) (m := 2) (cj := [1, 0]) (bj := u0.task == u1.task) rfl rfl (by kernel_rfl) rfl (by kernel_rfl) (by kernel_rfl) (by kernel_rfl) (fun hg => ld hF56 hM14 1 (g := [2, 1, 0]) (b := b5) (off := 1) (cs := [.int .i64 u0.task, .int .i64 u0.from_, .int .i64 u0.asked]) (ty := 110) rfl (by kernel_rfl) (by kernel_rfl) (by kernel_rfl) (by kernel_rfl) hg) ?_; intro a57 hF58; clear hF56
 refine gp hF58 25 2 [1, 0] (u0.task == u1.task) (.pointer (some ⟨b10, 1, none⟩)) rfl rfl ?_; intro a59 hF60; clear hF58
 refine gd hF60 (.int .i64 u1.from_) (m := 2) (cj := [1, 0]) (bj := u0.task == u1.task) rfl rfl (by kernel_rfl) rfl (by kernel_rfl) (by kernel_rfl) (by kernel_rfl) (fun hg => ld hF60 hM14 0 (g := [2, 1, 0]) (b := b10) (off := 1) (cs := [.int .i64 u1.task, .int .i64 u1.from_, .int .i64 u1.asked]) (ty := 110) rfl (by kernel_rfl) (by kernel_rfl) (by kernel_rfl) (by kernel_rfl) hg) ?_; intro a61 hF62; clear hF60
 refine gp hF62 27 2 [1, 0] (u0.task == u1.task) (.bool (decide (u0.from_ < u1.from_))) rfl rfl ?_; intro a63 hF64; clear hF62
 refine gd hF64 (.bool ((u0.task == u1.task) && (decide (u0.from_ < u1.from_)))) (m := 1) (cj := [0]) (bj := decide (u0.task < u1.task)) rfl rfl (by kernel_rfl) rfl (by kernel_rfl) (by kernel_rfl) (by kernel_rfl) (fun hg => pk_and hF64 (g := [1, 0]) (m := 2) (b := u0.task == u1.task) (v := decide (u0.from_ < u1.from_)) rfl (by kernel_rfl) (by kernel_rfl) (by kernel_rfl) hg) ?_; intro a65 hF66; clear hF64
 refine gd hF66 (.bool ((decide (u0.task < u1.task)) || ((u0.task == u1.task) && (decide (u0.from_ < u1.from_))))) (m := 0) (cj := []) (bj := decide (u0.asked ≤ u2)) rfl rfl (by kernel_rfl) rfl (by kernel_rfl) (by kernel_rfl) (by kernel_rfl) (fun hg => pk_or hF66 (g := [0]) (m := 1) (b := decide (u0.task < u1.task)) (v := (u0.task == u1.task) && (decide (u0.from_ < u1.from_))) rfl (by kernel_rfl) (by kernel_rfl) (by kernel_rfl) hg) ?_; intro a67 hF68; clear hF66
 refine st hF68 (.bool ((decide (u0.asked ≤ u2)) && ((decide (u0.task < u1.task)) || ((u0.task == u1.task) && (decide (u0.from_ < u1.from_)))))) (nog rfl _) rfl (by kernel_rfl) (pk_and hF68 (g := []) (m := 0) (b := decide (u0.asked ≤ u2)) (v := (decide (u0.task < u1.task)) || ((u0.task == u1.task) && (decide (u0.from_ < u1.from_)))) rfl (by kernel_rfl) (by kernel_rfl) (by kernel_rfl) rfl) ?_; intro a69 hF70; clear hF68
 refine s1 hF70 5 (.bool ((decide (u0.asked ≤ u2)) && ((decide (u0.task < u1.task)) || ((u0.task == u1.task) && (decide (u0.from_ < u1.from_)))))) ?_; intro a71 hF72; clear hF70
 refine nlH (hQ17 _ _ ?_); clear hQ17 hQ17Q
 refine wp_ret ?_
 refine rt (fn := Try.f53) (v := .bool ((decide (u0.asked ≤ u2)) && ((decide (u0.task < u1.task)) || ((u0.task == u1.task) && (decide (u0.from_ < u1.from_)))))) hF72 (re1 hF72 (fn := Try.f53) rfl (by kernel_rfl)) ?_
 exact ⟨(decide (u0.asked ≤ u2)) && ((decide (u0.task < u1.task)) || ((u0.task == u1.task) && (decide (u0.from_ < u1.from_)))), rfl, hp, hM14.below⟩
theorem ahead_fun (u0 : Job) (u1 : Job) (u2 : Int) (cb1 co2 : Nat) (Z : Fz) (w : World) (hP3 : PtR Z cb1 co2 [.int .i64 u2]) (hZ : Z.on w) : Calls Try.prog 53 #[.agg #[.int .i64 u0.task, .int .i64 u0.from_, .int .i64 u0.asked], .agg #[.int .i64 u1.task, .int .i64 u1.from_, .int .i64 u1.asked], .pointer (some ⟨cb1, co2, none⟩)] w fun e w' => e = .returned (.bool (ahead u0 u1 u2)) ∧ Below w.heap.size w w' :=
  (ahead_walk u0 u1 u2 cb1 co2 Z w hP3 hZ (ahead_ok u0 u1 u2)).mono fun _ _ ⟨r, he, hk, hb⟩ => ⟨by subst hk; exact he, hb⟩

end Go.Proofs.Ytginlmgkimfjmaa
