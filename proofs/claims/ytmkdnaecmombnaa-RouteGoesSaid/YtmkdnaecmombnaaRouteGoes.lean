/- The law 'RouteGoes' returns true for whatever can be read as its arguments; no condition; the arguments read behind the call as they did. -/
import Derived.Test.YtmkdnaecmombnaaRG0
import Derived.Test.YtmkdnaecmombnaaRG1
import Derived.Test.YtmkdnaecmombnaaRG2
import Derived.Test.YtmkdnaecmombnaaRG3
import Derived.Test.YtmkdnaecmombnaaRG4
import Derived.Test.YtmkdnaecmombnaaRG5
set_option linter.unusedVariables false
set_option linter.unusedSimpArgs false
namespace Go.Proofs.Ytmkdnaecmombnaa
namespace routeGoesLaw
open Go.Sy Go.RowKit Go.ChangeShapes Go.WideShapes Go.ChangeAt
theorem own : ownKnob Try.prog.godebug = none := by kernel_rfl
theorem laidOut : laidOutB Try.prog = true := by kernel_rfl
set_option maxRecDepth 100000 in
theorem contract (H : Type) (enc : TypeId × Value → H) (W : World) (base : Nat) (args : Array Value) (ds gs : List (DataW H)) (before : List MemPlace)
    (hval : ∀ (j : Nat) t v, Try.f3.params[j]? = some t → args[j]? = some v → Value.okWide Try.prog W .any base t v)
    (hW : DataW.Whole enc Try.prog Try.f3.params.toList Rows.routeGoesSpec.vars false W args.toList ds gs before) (hwt0 : (DataW.weightsEach Try.prog (Try.f3.params.toList ++ Rows.routeGoesSpec.plain.varTypes Try.prog) (ds ++ gs)).all (· ≤ reachBytes) = true) :
    Calls Try.prog 3 args W fun e W' => ∃ v, e = .returned v ∧ Rows.routeGoesSpec.post enc Try.prog Try.f3 false true false false W args v W' := by
  have hW1 := hW
  obtain ⟨p, q, hA0, hV, rfl, hfz, hnd⟩ := hW
  have hA : DataW.TrodAll enc Try.prog W 0 (fun _ => true) true Try.f3.params.toList args.toList ds p := hA0
  have hlt : ∀ x ∈ p ++ q, x.block < W.heap.size := fun x hx => by simpa using hW1.lt x hx
  obtain ⟨rfl, rfl⟩ := trodVars_none hV
  have hwt : ∀ n ∈ DataW.weightsEach Try.prog Try.f3.params.toList ds, n ≤ reachBytes := fun n hn => by
    have e1 : Try.f3.params.toList ++ Rows.routeGoesSpec.plain.varTypes Try.prog = Try.f3.params.toList := List.append_nil _
    rw [e1, List.append_nil] at hwt0
    simpa using List.all_eq_true.1 hwt0 n hn
  rw [Try.params3] at hA hval hwt
  obtain ⟨v0, vs0, d0, ds0, p0, r0, hargs, rfl, rfl, h0, hA1⟩ := trodAll_cons hA
  obtain ⟨v1, vs1, d1, ds1, p1, r1, rfl, rfl, rfl, h1, hA2⟩ := trodAll_cons hA1
  obtain ⟨v2, vs2, d2, ds2, p2, r2, rfl, rfl, rfl, h2, hA3⟩ := trodAll_cons hA2
  obtain ⟨rfl, rfl, rfl⟩ := trodAll_nil hA3
  obtain rfl : args = #[v0, v1, v2] := by cases args; simp_all
  have hk0 := h0
  obtain ⟨fu0, t0⟩ := h0
  have hv0 := hval 0 22 v0 rfl rfl
  have hc0 := arg_nonagg (by kernel_rfl) hv0
  rw [hc0] at t0
  obtain ⟨q0, e0, k0⟩ := (rd_slice (P := Try.prog) (t := 22) (e := 29) (bytes := 56) (by kernel_rfl) rdRoute).read enc W fu0 _ _ t0 (fun n hn => hwt n (mem_weightsEach (i := 0) rfl rfl n hn))
  obtain ⟨ao0a, cap0a, f0, s0a⟩ := e0
  obtain rfl : v0 = .slice ao0a q0.length cap0a := by have f : [v0] = [.slice ao0a q0.length cap0a] := f0; simpa using f
  have hk1 := h1
  obtain ⟨fu1, t1⟩ := h1
  have hv1 := hval 1 3 v1 rfl rfl
  have hc1 := arg_nonagg (by kernel_rfl) hv1
  rw [hc1] at t1
  obtain ⟨q1, e1, k1⟩ := (rd_int (P := Try.prog) (t := 3) (k := .i64) (by kernel_rfl)).read enc W fu1 _ _ t1 (fun n hn => hwt n (mem_weightsEach (i := 1) rfl rfl n hn))
  have f1 := e1
  obtain rfl : v1 = .int .i64 q1 := by have f : [v1] = [.int .i64 q1] := f1; simpa using f
  have hk2 := h2
  obtain ⟨fu2, t2⟩ := h2
  have hv2 := hval 2 25 v2 rfl rfl
  obtain ⟨c2, rfl, hc2⟩ := arg_agg (k := 6) (by kernel_rfl) hv2
  rw [hc2] at t2
  obtain ⟨q2, e2, k2⟩ := rdFrame.read enc W fu2 _ _ t2 (fun n hn => hwt n (mem_weightsEach (i := 2) rfl rfl n hn))
  obtain ⟨ao2a, cap2a, f2, s2a⟩ := e2
  obtain rfl : c2 = [.int .i64 q2.ID, .bool q2.Long, .bool q2.Fast, .bool q2.Remote, .int .i64 q2.Size, .slice ao2a q2.Data.length cap2a] := f2
  refine (LGoes_walk q0 q1 q2 ao0a cap0a ao2a cap2a (Zw W) W s0a s2a (Zw_on W) (K := fun r => r = true) (LGoes_ok q0 q1 q2 k0 k1 k2)).mono fun e W1 h => ?_
  obtain ⟨r, rfl, hr, hb⟩ := h
  subst hr
  refine ⟨_, rfl, _, [], _, [], (p0 ++ (p1 ++ (p2 ++ []))), [], hW1, trodAll_mk1 (shut_bool (by kernel_rfl) _), ?_, rfl, hb.frame _, fun h => by cases h⟩
  rw [Try.params3]
  exact (trodAll_cons_mk (Below.trod laidOut (by kernel_rfl) (of_decide_eq_true (by kernel_rfl)) hk0 hb (fun x hx => hlt x (by simp [hx]))) (trodAll_cons_mk (Below.trod laidOut (by kernel_rfl) (of_decide_eq_true (by kernel_rfl)) hk1 hb (fun x hx => hlt x (by simp [hx]))) (trodAll_cons_mk (Below.trod laidOut (by kernel_rfl) (of_decide_eq_true (by kernel_rfl)) hk2 hb (fun x hx => hlt x (by simp [hx]))) trodAll_mk0)))
set_option maxRecDepth 100000 in
theorem lifted (os : Os) (started : os.Started) (H : Type) (enc : TypeId × Value → H) :
    ReturnsInHanded {} Try.checked os 3 .any (Rows.routeGoesSpec.pre6 enc Try.prog Try.f3 Rows.routeGoesRow.domain false) (Rows.routeGoesSpec.post enc Try.prog Try.f3 false true false false) := by
  refine returnsInHanded_of_change_sized (C := Try.checked) own started (by kernel_rfl) Try.func3
    (ChangeSpec.witness6 (enc := enc) (C := Try.checked) false ⟨#[], #[.slice none 0 0, .int .i64 0, .agg #[.int .i64 0, .bool false, .bool false, .bool false, .int .i64 0, .slice none 0 0]], []⟩ 8 (by kernel_rfl) (by kernel_rfl) (by kernel_rfl) (by kernel_rfl)) ?_
  intro W base args ds gs before hval hW _ hwt _
  exact contract H enc W base args ds gs before hval hW hwt
theorem proved : Rows.RouteGoesSaid :=
  OpenClaim.holds_of_wide 3 Try.f3 rfl rfl rfl rfl rfl rfl rfl ⟨rfl, rfl, rfl, rfl, rfl⟩ rfl rfl rfl rfl rfl (by kernel_rfl) Try.func3 (by kernel_rfl)
    (of_decide_eq_true (by kernel_rfl)) (by unfold Func.isWrapper; first | (rw [if_pos (by decide +kernel)]; kernel_rfl) | (rw [if_neg (by decide +kernel)]; exact ⟨rfl, rfl⟩))
    (fun os started H enc _ => lifted os started H enc)
end routeGoesLaw

end Go.Proofs.Ytmkdnaecmombnaa
