/- The walks, made by program: each call does what its pure predicate says. -/
import Derived.Test.YtginlmgkimfjmaaPDgs
import Derived.Test.YtginlmgkimfjmaaWDf
set_option linter.unusedVariables false
set_option linter.unusedSimpArgs false
namespace Go.Proofs.Ytginlmgkimfjmaa
open Go.Sy Go.RowKit
theorem dlong_fun (u0 : Task)  (Z : Fz) (w : World)  (hZ : Z.on w) : Calls Try.prog 81 #[.agg #[.int .i64 u0.ID, .int .i64 u0.Bytes, .int .i64 u0.Every, .int .i64 u0.Late, .int .i64 u0.Jitter]] w fun e w' => e = .returned (.int .i64 (dlongS u0)) ∧ Below w.heap.size w w' :=
  (dlong_walk u0  Z w  hZ (dlong_ok u0)).mono fun _ _ ⟨r, he, hk, hb⟩ => ⟨by subst hk; exact he, hb⟩

set_option maxRecDepth 100000 in
set_option maxHeartbeats 0 in
theorem dtasks_walk   (Z : Fz) (w : World)  (hZ : Z.on w) {K : (List Task) → Prop} (hp : dtasks_vc  K) : Calls Try.prog 49 #[] w fun e w' => ∃ (r : (List Task)) (ao1001 : Option Addr) (cap1002 : Nat) (Z' : Fz), e = .returned (.slice ao1001 r.length cap1002) ∧ K r ∧ Mem w.heap.size [] w Z [.own tyTask 34 ao1001 cap1002 r] Z' w' := by
 refine enter0 Try.func49 rfl rfl (by kernel_rfl) ?_; intro a0 hF0; have hM0 := Mem.start w Z hZ; have hle0 := Fz.le.refl Z
 refine sqH ?_; intro hQ1Q hQ1
 refine s1 hF0 0 (.slice none 0 0) ?_; intro a2 hF3; clear hF0
 refine nlH (hQ1 _ _ ?_); clear hQ1 hQ1Q
 refine sqH ?_; intro hQ4Q hQ4
 refine s1 hF3 1 (.agg #[.int .i64 1, .int .i64 8, .int .i64 1000, .int .i64 1000, .int .i64 0]) ?_; intro a5 hF6; clear hF3
 refine s1 hF6 2 (.agg #[.int .i64 2, .int .i64 8, .int .i64 1000, .int .i64 1000, .int .i64 0]) ?_; intro a7 hF8; clear hF6
 refine sn hF8 hM0 (fun b => .slice (some ⟨b, 0, none⟩) 2 2) [.int .i64 1, .int .i64 8, .int .i64 1000, .int .i64 1000, .int .i64 0, .int .i64 2, .int .i64 8, .int .i64 1000, .int .i64 1000, .int .i64 0] 34 (nog rfl _) rfl (by kernel_rfl) (by kernel_rfl) ?_; intro b9 a10 wd12 hF11 hM13; clear hF8 hM0
 refine s1 hF11 0 (.slice (some ⟨b9, 0, none⟩) 2 2) ?_; intro a14 hF15; clear hF11
 refine nlH (hQ4 _ _ ?_); clear hQ4 hQ4Q
 refine wp_ret ?_
 have hM16 : Mem w.heap.size [] w Z [.own tyTask 34 (some ⟨b9, 0, none⟩) 2 ([(⟨1, 8, 1000, 1000, 0⟩ : Task), (⟨2, 8, 1000, 1000, 0⟩ : Task)] : List Task)] Z wd12 := hM13.rowOwn (T := tyTask) (xs := ([(⟨1, 8, 1000, 1000, 0⟩ : Task), (⟨2, 8, 1000, 1000, 0⟩ : Task)] : List Task)) 0 rfl (by decide) (by show 2 ≤ lim; decide) ((RepAll.one (T := tyTask) (x := (⟨1, 8, 1000, 1000, 0⟩ : Task)) rfl).append (RepAll.one (T := tyTask) (x := (⟨2, 8, 1000, 1000, 0⟩ : Task)) rfl)); clear hM13
 refine rt (fn := Try.f49) (v := .slice (some ⟨b9, 0, none⟩) ([(⟨1, 8, 1000, 1000, 0⟩ : Task), (⟨2, 8, 1000, 1000, 0⟩ : Task)] : List Task).length 2) hF15 (re1 hF15 (fn := Try.f49) rfl (by kernel_rfl)) ?_
 exact ⟨([(⟨1, 8, 1000, 1000, 0⟩ : Task), (⟨2, 8, 1000, 1000, 0⟩ : Task)] : List Task), (some ⟨b9, 0, none⟩), 2, Z, rfl, hp, hM16.keep (List.Sublist.cons_cons _ (List.Sublist.slnil))⟩

end Go.Proofs.Ytginlmgkimfjmaa
