/- The law 'SignalWrite' returns true for whatever can be read as its arguments; condition: the package-level variables that its row lists hold what the program's text lays (tied by the card); the arguments read behind the call as they did. -/
import Derived.Test.YtdndfbamhnchfaaDoorKw0
import Derived.Test.YtdndfbamhnchfaaDoorKw1
import Derived.Test.YtdndfbamhnchfaaDoorKw2
import Derived.Test.YtdndfbamhnchfaaDoorKw3
import Derived.Test.YtdndfbamhnchfaaDoorKw4
import Derived.Test.YtdndfbamhnchfaaDoorKw5
import Derived.Test.YtdndfbamhnchfaaDoorKw6
import Derived.Test.YtdndfbamhnchfaaDoorKw7
import Derived.Test.YtdndfbamhnchfaaDoorTie
import Derived.Test.YtdndfbamhnchfaaDoorCards
import Derived.Lay
import Derived.LaidMore
import Derived.SevenTiedAt
set_option linter.unusedVariables false
set_option linter.unusedSimpArgs false
namespace Go.Proofs.YtdndfbamhnchfaaDoor
namespace signalWriteLaw
open Go.Sy Go.RowKit Go.ChangeShapes Go.WideShapes Go.ChangeAt
theorem own : ownKnob Tryd.prog.godebug = none := by kernel_rfl
theorem laidOut : laidOutB Tryd.prog = true := by kernel_rfl
set_option maxRecDepth 100000 in
theorem contract (H : Type) (enc : TypeId × Value → H) (W : World) (base : Nat) (args : Array Value) (ds gs : List (DataW H)) (before : List MemPlace)
    (hval : ∀ (j : Nat) t v, Tryd.f4.params[j]? = some t → args[j]? = some v → Value.okWide Tryd.prog W .any base t v)
    (hW : DataW.Whole enc Tryd.prog Tryd.f4.params.toList Rows.signalWriteSpec.vars false W args.toList ds gs before) (hwt0 : (DataW.weightsEach Tryd.prog (Tryd.f4.params.toList ++ Rows.signalWriteSpec.plain.varTypes Tryd.prog) (ds ++ gs)).all (· ≤ reachBytes) = true) :
    Calls Tryd.prog 4 args W fun e W' => ∃ v, e = .returned v ∧ Rows.signalWriteSpec.post enc Tryd.prog Tryd.f4 false true false false W args v W' := by
  have hW1 := hW
  obtain ⟨p, q, hA0, hV, rfl, hfz, hnd⟩ := hW
  have hA : DataW.TrodAll enc Tryd.prog W 0 (fun _ => true) true Tryd.f4.params.toList args.toList ds p := hA0
  have hlt : ∀ x ∈ p ++ q, x.block < W.heap.size := fun x hx => by simpa using hW1.lt x hx
  obtain ⟨rfl, rfl⟩ := trodVars_none hV
  have hwt : ∀ n ∈ DataW.weightsEach Tryd.prog Tryd.f4.params.toList ds, n ≤ reachBytes := fun n hn => by
    have e1 : Tryd.f4.params.toList ++ Rows.signalWriteSpec.plain.varTypes Tryd.prog = Tryd.f4.params.toList := List.append_nil _
    rw [e1, List.append_nil] at hwt0
    simpa using List.all_eq_true.1 hwt0 n hn
  rw [Tryd.params4] at hA hval hwt
  obtain ⟨v0, vs0, d0, ds0, p0, r0, hargs, rfl, rfl, h0, hA1⟩ := trodAll_cons hA
  obtain ⟨v1, vs1, d1, ds1, p1, r1, rfl, rfl, rfl, h1, hA2⟩ := trodAll_cons hA1
  obtain ⟨v2, vs2, d2, ds2, p2, r2, rfl, rfl, rfl, h2, hA3⟩ := trodAll_cons hA2
  obtain ⟨v3, vs3, d3, ds3, p3, r3, rfl, rfl, rfl, h3, hA4⟩ := trodAll_cons hA3
  obtain ⟨rfl, rfl, rfl⟩ := trodAll_nil hA4
  obtain rfl : args = #[v0, v1, v2, v3] := by cases args; simp_all
  have hk0 := h0
  obtain ⟨fu0, t0⟩ := h0
  have hv0 := hval 0 23 v0 rfl rfl
  obtain ⟨c0, rfl, hc0⟩ := arg_agg (k := 9) (by kernel_rfl) hv0
  rw [hc0] at t0
  obtain ⟨q0, e0, k0⟩ := rdSignal.read enc W fu0 _ _ t0 (fun n hn => hwt n (mem_weightsEach (i := 0) rfl rfl n hn))
  have f0 := e0
  obtain rfl : c0 = [str q0.Name, .int .i64 q0.Start, .int .i64 q0.Size, .bool q0.Back, .bool q0.Signed, .int .i64 q0.Mul, .int .i64 q0.Div, .int .i64 q0.Add, .int .i64 q0.Key] := f0
  have hk1 := h1
  obtain ⟨fu1, t1⟩ := h1
  have hv1 := hval 1 24 v1 rfl rfl
  have hc1 := arg_nonagg (by kernel_rfl) hv1
  rw [hc1] at t1
  obtain ⟨q1, e1, k1⟩ := (rd_slice (P := Tryd.prog) (t := 24) (e := 5) (bytes := 1) (by kernel_rfl) (rd_int (P := Tryd.prog) (t := 5) (k := .u8) (by kernel_rfl))).read enc W fu1 _ _ t1 (fun n hn => hwt n (mem_weightsEach (i := 1) rfl rfl n hn))
  obtain ⟨ao1a, cap1a, f1, s1a⟩ := e1
  obtain rfl : v1 = .slice ao1a q1.length cap1a := by have f : [v1] = [.slice ao1a q1.length cap1a] := f1; simpa using f
  have hk2 := h2
  obtain ⟨fu2, t2⟩ := h2
  have hv2 := hval 2 3 v2 rfl rfl
  have hc2 := arg_nonagg (by kernel_rfl) hv2
  rw [hc2] at t2
  obtain ⟨q2, e2, k2⟩ := (rd_int (P := Tryd.prog) (t := 3) (k := .i64) (by kernel_rfl)).read enc W fu2 _ _ t2 (fun n hn => hwt n (mem_weightsEach (i := 2) rfl rfl n hn))
  have f2 := e2
  obtain rfl : v2 = .int .i64 q2 := by have f : [v2] = [.int .i64 q2] := f2; simpa using f
  have hk3 := h3
  obtain ⟨fu3, t3⟩ := h3
  have hv3 := hval 3 3 v3 rfl rfl
  have hc3 := arg_nonagg (by kernel_rfl) hv3
  rw [hc3] at t3
  obtain ⟨q3, e3, k3⟩ := (rd_int (P := Tryd.prog) (t := 3) (k := .i64) (by kernel_rfl)).read enc W fu3 _ _ t3 (fun n hn => hwt n (mem_weightsEach (i := 3) rfl rfl n hn))
  have f3 := e3
  obtain rfl : v3 = .int .i64 q3 := by have f : [v3] = [.int .i64 q3] := f3; simpa using f
  refine (LWrite_walk q0 q1 q2 q3 ao1a cap1a (Zw W) W s1a (Zw_on W) (K := fun r => r = true) (LWrite_ok q0 q1 q2 q3 k0 k1 k2 k3)).mono fun e W1 h => ?_
  obtain ⟨r, rfl, hr, hb⟩ := h
  subst hr
  refine ⟨_, rfl, _, [], _, [], (p0 ++ (p1 ++ (p2 ++ (p3 ++ [])))), [], hW1, trodAll_mk1 (shut_bool (by kernel_rfl) _), ?_, rfl, hb.frame _, fun h => by cases h⟩
  rw [Tryd.params4]
  exact (trodAll_cons_mk (Below.trod laidOut (by kernel_rfl) (of_decide_eq_true (by kernel_rfl)) hk0 hb (fun x hx => hlt x (by simp [hx]))) (trodAll_cons_mk (Below.trod laidOut (by kernel_rfl) (of_decide_eq_true (by kernel_rfl)) hk1 hb (fun x hx => hlt x (by simp [hx]))) (trodAll_cons_mk (Below.trod laidOut (by kernel_rfl) (of_decide_eq_true (by kernel_rfl)) hk2 hb (fun x hx => hlt x (by simp [hx]))) (trodAll_cons_mk (Below.trod laidOut (by kernel_rfl) (of_decide_eq_true (by kernel_rfl)) hk3 hb (fun x hx => hlt x (by simp [hx]))) trodAll_mk0))))
set_option maxRecDepth 100000 in
theorem lifted (os : Os) (started : os.Started) (H : Type) (enc : TypeId × Value → H) :
    ReturnsInHanded {} Tryd.checked os 4 .any (fun w args => (Rows.signalWriteSpec.pre enc Tryd.prog Tryd.f4 [] false w args ∧ laidMetH Tryd.prog Rows.signalWriteRow.laid w) ∧ sizedMet enc Tryd.prog Tryd.f4 (OpenSpec.ofChange Rows.signalWriteSpec) false w args) (Rows.signalWriteSpec.post enc Tryd.prog Tryd.f4 false true false false) := by
  refine returnsInHanded_of_change_and (C := Tryd.checked) (X := fun w _ => laidMetH Tryd.prog Rows.signalWriteRow.laid w) (fun _ _ _ hh h => h.of_heap hh) own started (by kernel_rfl) Tryd.func4
    (ChangeSpec.witness_shaped (enc := enc) (C := Tryd.checked) (os := os) (X := fun w _ => laidMetH Tryd.prog Rows.signalWriteRow.laid w) false (World.laidAll Tryd.prog os Rows.signalWriteRow.laid) #[.agg #[str [], .int .i64 0, .int .i64 0, .bool false, .bool false, .int .i64 0, .int .i64 0, .int .i64 0, .int .i64 0], .slice none 0 0, .int .i64 0, .int .i64 0] 8 (World.laidAll_os _ _ _)
      (World.shaped_of_ZipB (by kernel_rfl) (by kernel_rfl)) (by kernel_rfl) (by kernel_rfl) (by kernel_rfl)
      (by rw [MakeChecks.laidMetH_plain _ _ _ (by kernel_rfl)]; exact laidMet_laidAll _ (by kernel_rfl) (by kernel_rfl))) ?_
  intro W base args ds gs before hval hW _ hwt _ _
  exact contract H enc W base args ds gs before hval hW hwt
theorem holds : Rows.SignalWriteSaid :=
  OpenClaim.holds_of_wide 4 Tryd.f4 rfl rfl rfl rfl rfl rfl rfl ⟨rfl, rfl, rfl, rfl, rfl⟩ rfl rfl rfl rfl rfl (by kernel_rfl) Tryd.func4 (by kernel_rfl)
    (of_decide_eq_true (by kernel_rfl)) (by unfold Func.isWrapper; first | (rw [if_pos (by decide +kernel)]; kernel_rfl) | (rw [if_neg (by decide +kernel)]; exact ⟨rfl, rfl⟩))
    (fun os started H enc _ => lifted os started H enc)
theorem proved : Rows.SignalWriteCardSaid :=
  Claim7.holds_tied_plain_at .later [] [.data, .pinned] true (true, "be497365eb9e3b95c953620ea312743127d9da80275b620f6f6f60d85d0c07dd") false
    holds (fun _ h => by cases h) (by kernel_rfl) (fun _ h => by cases h) signalWrite_row_tie rfl ⟨rfl, rfl⟩ (by kernel_rfl) rfl
    (fun f fn hf hfn => by
      obtain rfl : f = 4 := Option.some.inj ((show Tryd.prog.funcNamed "omnibus/omnibuslaw.SignalWrite" = some 4 by kernel_rfl).symm.trans hf) |>.symm
      obtain rfl : fn = Tryd.f4 := (Option.some.inj (Tryd.func4.symm.trans hfn)).symm
      exact ⟨by kernel_rfl, fun j t ht => by
        rw [Tryd.params4] at ht
        have hm : t ∈ [23, 24, 3, 3] := by simpa using Array.mem_of_getElem? ht
        have hall : ([23, 24, 3, 3].all fun u => !Tryd.prog.wantsStandIn u) = true := by kernel_rfl
        exact (show Tryd.prog.wantsStandIn t = false by simpa using List.all_eq_true.1 hall t hm)⟩)
    (by kernel_rfl)
end signalWriteLaw

end Go.Proofs.YtdndfbamhnchfaaDoor
