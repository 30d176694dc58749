/- The walks, made by program: each call does what its pure predicate says. -/
import Derived.Test.YtginlmgkimfjmaaPDf
import Derived.Test.YtginlmgkimfjmaaWDe
set_option linter.unusedVariables false
set_option linter.unusedSimpArgs false
namespace Go.Proofs.Ytginlmgkimfjmaa
open Go.Sy Go.RowKit
theorem flongest_fun (u0 : Bool) (u1 : Bool) (u2 : Int)  (Z : Fz) (w : World)  (hZ : Z.on w) : Calls Try.prog 55 #[.bool u0, .bool u1, .int .i64 u2] w fun e w' => e = .returned (.tuple #[.int .i64 ((flongestS u0 u1 u2).1), .int .i64 ((flongestS u0 u1 u2).2)]) ∧ Below w.heap.size w w' :=
  (flongest_walk u0 u1 u2  Z w  hZ (flongest_ok u0 u1 u2)).mono fun _ _ ⟨r, he, hk, hb⟩ => ⟨by subst hk; exact he, hb⟩

set_option maxRecDepth 100000 in
set_option maxHeartbeats 0 in
theorem dlong_walk (u0 : Task)  (Z : Fz) (w : World)  (hZ : Z.on w) {K : Int → Prop} (hp : dlong_vc u0 K) : Calls Try.prog 81 #[.agg #[.int .i64 u0.ID, .int .i64 u0.Bytes, .int .i64 u0.Every, .int .i64 u0.Late, .int .i64 u0.Jitter]] w fun e w' => ∃ r : Int, e = .returned (.int .i64 r) ∧ K r ∧ Below w.heap.size w w' := by
 refine enter0 Try.func81 rfl rfl (by kernel_rfl) ?_; intro a0 hF0; have hM0 := Mem.start w Z hZ; have hle0 := Fz.le.refl Z
 refine sqH ?_; intro hQ1Q hQ1
 refine sn hF0 hM0 (fun b => .pointer (some ⟨b, 0, none⟩)) [.int .i64 u0.ID, .int .i64 u0.Bytes, .int .i64 u0.Every, .int .i64 u0.Late, .int .i64 u0.Jitter] 34 (nog rfl _) rfl (by kernel_rfl) (by kernel_rfl) ?_; intro b2 a3 wd5 hF4 hM6; clear hF0 hM0
 refine s1 hF4 2 (.int .i64 0) ?_; intro a7 hF8; clear hF4
 refine nlH (hQ1 _ _ ?_); clear hQ1 hQ1Q
 refine sqH ?_; intro hQ9Q hQ9
 refine s1 hF8 6 (.pointer (some ⟨b2, 1, none⟩)) ?_; intro a10 hF11; clear hF8
 refine l1 hF11 hM6 7 0 1 (.int .i64 u0.Bytes) rfl rfl ?_; intro a12 hF13; clear hF11
 refine fcl hF13 hM6 (.tuple #[.int .i64 ((flongestS false false u0.Bytes).1), .int .i64 ((flongestS false false u0.Bytes).2)]) 55 #[.bool false, .bool false, .int .i64 u0.Bytes] (nog rfl _) rfl (by kernel_rfl) (fun _ => by kernel_rfl) (flongest_fun false false u0.Bytes _ _ hM6.fz) ?_; intro a14 wd16 hF15 hM17; clear hF13 hM6
 refine s1 hF15 5 (.tuple #[.int .i64 ((flongestS false false u0.Bytes).1), .int .i64 ((flongestS false false u0.Bytes).2)]) ?_; intro a18 hF19; clear hF15
 refine s1 hF19 9 (.int .i64 ((flongestS false false u0.Bytes).1)) ?_; intro a20 hF21; clear hF19
 refine s1 hF21 10 (.int .i64 ((flongestS false false u0.Bytes).2)) ?_; intro a22 hF23; clear hF21
 refine s1 hF23 3 (.int .i64 ((flongestS false false u0.Bytes).1)) ?_; intro a24 hF25; clear hF23
 refine s1 hF25 4 (.int .i64 ((flongestS false false u0.Bytes).2)) ?_; intro a26 hF27; clear hF25
 refine nlH (hQ9 _ _ ?_); clear hQ9 hQ9Q
 refine sqH ?_; intro hQ28Q hQ28
 refine s1 hF27 11 (.int .i64 ((flongestS false false u0.Bytes).1)) ?_; intro a29 hF30; clear hF27
 refine s1 hF30 12 (.int .i64 (w64 (((flongestS false false u0.Bytes).1) + 3))) ?_; intro a31 hF32; clear hF30
 refine s1 hF32 2 (.int .i64 (w64 (((flongestS false false u0.Bytes).1) + 3))) ?_; intro a33 hF34; clear hF32
 refine nlH (hQ28 _ _ ?_); clear hQ28 hQ28Q
 refine wp_ret ?_
 refine rt (fn := Try.f81) (v := .int .i64 (w64 (((flongestS false false u0.Bytes).1) + 3))) hF34 (re1 hF34 (fn := Try.f81) rfl (by kernel_rfl)) ?_
 exact ⟨w64 (((flongestS false false u0.Bytes).1) + 3), rfl, hp, hM17.below⟩

end Go.Proofs.Ytginlmgkimfjmaa
