/- The law 'DelayMore' returns true for whatever can be read as its arguments; no condition; the arguments read behind the call as they did. -/
import Derived.Test.YtginlmgkimfjmaaDM0
import Derived.Test.YtginlmgkimfjmaaDM1
import Derived.Test.YtginlmgkimfjmaaDM2
set_option linter.unusedVariables false
set_option linter.unusedSimpArgs false
namespace Go.Proofs.Ytginlmgkimfjmaa
namespace delayMoreLaw
open Go.Sy Go.RowKit Go.ChangeShapes Go.WideShapes Go.ChangeAt
theorem own : ownKnob Try.prog.godebug = none := by kernel_rfl
theorem laidOut : laidOutB Try.prog = true := by kernel_rfl
set_option maxRecDepth 100000 in
theorem contract (H : Type) (enc : TypeId × Value → H) (W : World) (base : Nat) (args : Array Value) (ds gs : List (DataW H)) (before : List MemPlace)
    (hval : ∀ (j : Nat) t v, Try.f4.params[j]? = some t → args[j]? = some v → Value.okWide Try.prog W .any base t v)
    (hW : DataW.Whole enc Try.prog Try.f4.params.toList Rows.delayMoreSpec.vars false W args.toList ds gs before) (hwt0 : (DataW.weightsEach Try.prog (Try.f4.params.toList ++ Rows.delayMoreSpec.plain.varTypes Try.prog) (ds ++ gs)).all (· ≤ reachBytes) = true) :
    Calls Try.prog 4 args W fun e W' => ∃ v, e = .returned v ∧ Rows.delayMoreSpec.post enc Try.prog Try.f4 false true false false W args v W' := by
  have hW1 := hW
  obtain ⟨p, q, hA0, hV, rfl, hfz, hnd⟩ := hW
  have hA : DataW.TrodAll enc Try.prog W 0 (fun _ => true) true Try.f4.params.toList args.toList ds p := hA0
  have hlt : ∀ x ∈ p ++ q, x.block < W.heap.size := fun x hx => by simpa using hW1.lt x hx
  obtain ⟨rfl, rfl⟩ := trodVars_none hV
  have hwt : ∀ n ∈ DataW.weightsEach Try.prog Try.f4.params.toList ds, n ≤ reachBytes := fun n hn => by
    have e1 : Try.f4.params.toList ++ Rows.delayMoreSpec.plain.varTypes Try.prog = Try.f4.params.toList := List.append_nil _
    rw [e1, List.append_nil] at hwt0
    simpa using List.all_eq_true.1 hwt0 n hn
  rw [Try.params4] at hA hval hwt
  obtain ⟨v0, vs0, d0, ds0, p0, r0, hargs, rfl, rfl, h0, hA1⟩ := trodAll_cons hA
  obtain ⟨v1, vs1, d1, ds1, p1, r1, rfl, rfl, rfl, h1, hA2⟩ := trodAll_cons hA1
  obtain ⟨rfl, rfl, rfl⟩ := trodAll_nil hA2
  obtain rfl : args = #[v0, v1] := by cases args; simp_all
  have hk0 := h0
  obtain ⟨fu0, t0⟩ := h0
  have hv0 := hval 0 32 v0 rfl rfl
  have hc0 := arg_nonagg (by kernel_rfl) hv0
  rw [hc0] at t0
  obtain ⟨q0, e0, k0⟩ := (rd_sliceR (P := Try.prog) (t := 32) (e := 34) (bytes := 40) (by kernel_rfl) rdTask).read enc W fu0 _ _ t0 (fun n hn => hwt n (mem_weightsEach (i := 0) rfl rfl n hn))
  obtain ⟨ao0a, cap0a, f0, s0a⟩ := e0
  obtain rfl : v0 = .slice ao0a q0.length cap0a := by have f : [v0] = [.slice ao0a q0.length cap0a] := f0; simpa using f
  have hk1 := h1
  obtain ⟨fu1, t1⟩ := h1
  have hv1 := hval 1 34 v1 rfl rfl
  obtain ⟨c1, rfl, hc1⟩ := arg_agg (k := 5) (by kernel_rfl) hv1
  rw [hc1] at t1
  obtain ⟨q1, e1, k1⟩ := rdTask.read enc W fu1 _ _ t1 (fun n hn => hwt n (mem_weightsEach (i := 1) rfl rfl n hn))
  have f1 := e1
  obtain rfl : c1 = [.int .i64 q1.ID, .int .i64 q1.Bytes, .int .i64 q1.Every, .int .i64 q1.Late, .int .i64 q1.Jitter] := f1
  refine (LMore_walk q0 q1 ao0a cap0a (Zw W) W s0a (Zw_on W) (K := fun r => r = true) (LMore_ok q0 q1 k0 k1)).mono fun e W1 h => ?_
  obtain ⟨r, rfl, hr, hb⟩ := h
  subst hr
  refine ⟨_, rfl, _, [], _, [], (p0 ++ (p1 ++ [])), [], hW1, trodAll_mk1 (shut_bool (by kernel_rfl) _), ?_, rfl, hb.frame _, fun h => by cases h⟩
  rw [Try.params4]
  exact (trodAll_cons_mk (Below.trod laidOut (by kernel_rfl) (of_decide_eq_true (by kernel_rfl)) hk0 hb (fun x hx => hlt x (by simp [hx]))) (trodAll_cons_mk (Below.trod laidOut (by kernel_rfl) (of_decide_eq_true (by kernel_rfl)) hk1 hb (fun x hx => hlt x (by simp [hx]))) trodAll_mk0))
set_option maxRecDepth 100000 in
theorem lifted (os : Os) (started : os.Started) (H : Type) (enc : TypeId × Value → H) :
    ReturnsInHanded {} Try.checked os 4 .any (Rows.delayMoreSpec.pre6 enc Try.prog Try.f4 Rows.delayMoreRow.domain false) (Rows.delayMoreSpec.post enc Try.prog Try.f4 false true false false) := by
  refine returnsInHanded_of_change_sized (C := Try.checked) own started (by kernel_rfl) Try.func4
    (ChangeSpec.witness6 (enc := enc) (C := Try.checked) false ⟨#[], #[.slice none 0 0, .agg #[.int .i64 0, .int .i64 0, .int .i64 0, .int .i64 0, .int .i64 0]], []⟩ 8 (by kernel_rfl) (by kernel_rfl) (by kernel_rfl) (by kernel_rfl)) ?_
  intro W base args ds gs before hval hW _ hwt _
  exact contract H enc W base args ds gs before hval hW hwt
theorem proved : Rows.DelayMoreSaid :=
  OpenClaim.holds_of_wide 4 Try.f4 rfl rfl rfl rfl rfl rfl rfl ⟨rfl, rfl, rfl, rfl, rfl⟩ rfl rfl rfl rfl rfl (by kernel_rfl) Try.func4 (by kernel_rfl)
    (of_decide_eq_true (by kernel_rfl)) (by unfold Func.isWrapper; first | (rw [if_pos (by decide +kernel)]; kernel_rfl) | (rw [if_neg (by decide +kernel)]; exact ⟨rfl, rfl⟩))
    (fun os started H enc _ => lifted os started H enc)
end delayMoreLaw

end Go.Proofs.Ytginlmgkimfjmaa
