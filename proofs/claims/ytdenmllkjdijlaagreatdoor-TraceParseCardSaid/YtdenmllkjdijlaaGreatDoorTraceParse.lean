/- The law 'TraceParse' returns true for whatever can be read as its arguments; condition: the package-level variables that its row lists hold what the program's text lays (tied by the card); the arguments read behind the call as they did. -/
import Derived.Test.YtdenmllkjdijlaaGreatDoorTP0
import Derived.Test.YtdenmllkjdijlaaGreatDoorTP1
import Derived.Test.YtdenmllkjdijlaaGreatDoorTP2
import Derived.Test.YtdenmllkjdijlaaGreatDoorTP3
import Derived.Test.YtdenmllkjdijlaaGreatDoorTie
import Derived.Test.YtdenmllkjdijlaaGreatDoorCards
import Derived.Lay
import Derived.LaidMore
import Derived.SevenTiedAt
import Derived.Stop.LaidErr
set_option linter.unusedVariables false
set_option linter.unusedSimpArgs false
namespace Go.Proofs.YtdenmllkjdijlaaGreatDoor
namespace traceParseLaw
open Go.Sy Go.RowKit Go.ChangeShapes Go.WideShapes Go.ChangeAt
theorem own : ownKnob Tryz.prog.godebug = none := by kernel_rfl
theorem laidOut : laidOutB Tryz.prog = true := by kernel_rfl
set_option maxRecDepth 100000 in
theorem contract (H : Type) (enc : TypeId × Value → H) (W : World) (base : Nat) (args : Array Value) (ds gs : List (DataW H)) (before : List MemPlace)
    (hval : ∀ (j : Nat) t v, Tryz.f4.params[j]? = some t → args[j]? = some v → Value.okWide Tryz.prog W .any base t v)
    (hW : DataW.Whole enc Tryz.prog Tryz.f4.params.toList Rows.traceParseSpec.vars false W args.toList ds gs before) (hX : laidMetH Tryz.prog Rows.traceParseRow.laid W) (hwt0 : (DataW.weightsEach Tryz.prog (Tryz.f4.params.toList ++ Rows.traceParseSpec.plain.varTypes Tryz.prog) (ds ++ gs)).all (· ≤ reachBytes) = true) :
    Calls Tryz.prog 4 args W fun e W' => ∃ v, e = .returned v ∧ Rows.traceParseSpec.post enc Tryz.prog Tryz.f4 false true false false W args v W' := by
  have hW1 := hW
  obtain ⟨p, q, hA0, hV, rfl, hfz, hnd⟩ := hW
  have hA : DataW.TrodAll enc Tryz.prog W 0 (fun _ => true) true Tryz.f4.params.toList args.toList ds p := hA0
  have hlt : ∀ x ∈ p ++ q, x.block < W.heap.size := fun x hx => by simpa using hW1.lt x hx
  obtain ⟨rfl, rfl⟩ := trodVars_none hV
  have hwt : ∀ n ∈ DataW.weightsEach Tryz.prog Tryz.f4.params.toList ds, n ≤ reachBytes := fun n hn => by
    have e1 : Tryz.f4.params.toList ++ Rows.traceParseSpec.plain.varTypes Tryz.prog = Tryz.f4.params.toList := List.append_nil _
    rw [e1, List.append_nil] at hwt0
    simpa using List.all_eq_true.1 hwt0 n hn
  rw [Tryz.params4] at hA hval hwt
  obtain ⟨v0, vs0, d0, ds0, p0, r0, hargs, rfl, rfl, h0, hA1⟩ := trodAll_cons hA
  obtain ⟨rfl, rfl, rfl⟩ := trodAll_nil hA1
  obtain rfl : args = #[v0] := by cases args; simp_all
  have hk0 := h0
  obtain ⟨fu0, t0⟩ := h0
  have hv0 := hval 0 9 v0 rfl rfl
  have hc0 := arg_nonagg (by kernel_rfl) hv0
  rw [hc0] at t0
  obtain ⟨q0, e0, k0⟩ := (rd_str (P := Tryz.prog) (t := 9) (by kernel_rfl)).read enc W fu0 _ _ t0 (fun n hn => hwt n (mem_weightsEach (i := 0) rfl rfl n hn))
  have f0 := e0
  obtain rfl : v0 = str q0 := by have f : [v0] = [str q0] := f0; simpa using f
  have hX5 : laidMet Tryz.prog Rows.traceParseRow.laid W := by rw [← MakeChecks.laidMetH_plain _ _ _ (by kernel_rfl)]; exact hX
  have hX5_0 := laidMet.tail hX5
  have hX5_1 := laidMet.tail hX5_0
  have hg5 := tabF_of (g := 5) (Lib.tabIs_of_head (P := Tryz.prog) (W := W) (name := "internal/strconv.uint64pow10") (k := .u64) (zs := Lib.pow10Tab) (g := 5) (t := 186) (e := 99) (n := 20) (by kernel_rfl) (by kernel_rfl) (by kernel_rfl) (by kernel_rfl) (by kernel_rfl) (by kernel_rfl) hX5_1) (by kernel_rfl)
  have hX1 : laidMet Tryz.prog Rows.traceParseRow.laid W := by rw [← MakeChecks.laidMetH_plain _ _ _ (by kernel_rfl)]; exact hX
  have hX1_0 := laidMet.tail hX1
  have hX1_1 := laidMet.tail hX1_0
  have hX1_2 := laidMet.tail hX1_1
  have hX1_3 := laidMet.tail hX1_2
  have hX1_4 := laidMet.tail hX1_3
  have hg1 := (let ⟨_, _, hv9, _⟩ := laid_sentinel (W := W) hX1_4 (g := 1) (ti := 69) (tp := 182) (te := 184) (ts := 9) (by kernel_rfl) (by kernel_rfl) Tryz.underlying69 rowE Tryz.underlying182 Tryz.underlying184 rfl rfl Tryz.underlying9 (by kernel_rfl) (by kernel_rfl); errR_of (g := 1) hv9 (by kernel_rfl))
  have hX2 : laidMet Tryz.prog Rows.traceParseRow.laid W := by rw [← MakeChecks.laidMetH_plain _ _ _ (by kernel_rfl)]; exact hX
  have hX2_0 := laidMet.tail hX2
  have hX2_1 := laidMet.tail hX2_0
  have hX2_2 := laidMet.tail hX2_1
  have hX2_3 := laidMet.tail hX2_2
  have hg2 := (let ⟨_, _, hv9, _⟩ := laid_sentinel (W := W) hX2_3 (g := 2) (ti := 69) (tp := 182) (te := 184) (ts := 9) (by kernel_rfl) (by kernel_rfl) Tryz.underlying69 rowE Tryz.underlying182 Tryz.underlying184 rfl rfl Tryz.underlying9 (by kernel_rfl) (by kernel_rfl); errR_of (g := 2) hv9 (by kernel_rfl))
  refine (LParse_walk q0 (Zw W) W hg5 hg1 hg2 (Zw_on W) (K := fun r => r = true) (LParse_ok2 q0 k0)).mono fun e W1 h => ?_
  obtain ⟨r, rfl, hr, hb⟩ := h
  subst hr
  refine ⟨_, rfl, _, [], _, [], (p0 ++ []), [], hW1, trodAll_mk1 (shut_bool (by kernel_rfl) _), ?_, rfl, hb.frame _, fun h => by cases h⟩
  rw [Tryz.params4]
  exact (trodAll_cons_mk (Below.trod laidOut (by kernel_rfl) (of_decide_eq_true (by kernel_rfl)) hk0 hb (fun x hx => hlt x (by simp [hx]))) trodAll_mk0)
set_option maxRecDepth 100000 in
theorem lifted (os : Os) (started : os.Started) (H : Type) (enc : TypeId × Value → H) :
    ReturnsInHanded {} Tryz.checked os 4 .any (fun w args => (Rows.traceParseSpec.pre enc Tryz.prog Tryz.f4 [] false w args ∧ laidMetH Tryz.prog Rows.traceParseRow.laid w) ∧ sizedMet enc Tryz.prog Tryz.f4 (OpenSpec.ofChange Rows.traceParseSpec) false w args) (Rows.traceParseSpec.post enc Tryz.prog Tryz.f4 false true false false) := by
  refine returnsInHanded_of_change_and (C := Tryz.checked) (X := fun w _ => laidMetH Tryz.prog Rows.traceParseRow.laid w) (fun _ _ _ hh h => h.of_heap hh) own started (by kernel_rfl) Tryz.func4
    (ChangeSpec.witness_shaped (enc := enc) (C := Tryz.checked) (os := os) (X := fun w _ => laidMetH Tryz.prog Rows.traceParseRow.laid w) false (World.laidAll Tryz.prog os Rows.traceParseRow.laid) #[str []] 8 (World.laidAll_os _ _ _)
      (World.shaped_of_ZipB (by kernel_rfl) (by kernel_rfl)) (by kernel_rfl) (by kernel_rfl) (by kernel_rfl)
      (by rw [MakeChecks.laidMetH_plain _ _ _ (by kernel_rfl)]; exact laidMet_laidAll _ (by kernel_rfl) (by kernel_rfl))) ?_
  intro W base args ds gs before hval hW x1 hwt x2 x3
  exact contract H enc W base args ds gs before hval hW (by first | exact x1 | exact x2 | exact x3 | exact x1.2 | exact x2.2 | exact x3.2 | exact x1.1 | exact x2.1 | exact x3.1) hwt
theorem holds : Rows.TraceParseSaid :=
  OpenClaim.holds_of_wide 4 Tryz.f4 rfl rfl rfl rfl rfl rfl rfl ⟨rfl, rfl, rfl, rfl, rfl⟩ rfl rfl rfl rfl rfl (by kernel_rfl) Tryz.func4 (by kernel_rfl)
    (of_decide_eq_true (by kernel_rfl)) (by unfold Func.isWrapper; first | (rw [if_pos (by decide +kernel)]; kernel_rfl) | (rw [if_neg (by decide +kernel)]; exact ⟨rfl, rfl⟩))
    (fun os started H enc _ => lifted os started H enc)
theorem proved : Rows.TraceParseCardSaid :=
  Claim7.holds_tied_plain_at .later [] [.data, .data, .data, .data, .sentinel, .sentinel, .pinned] true (true, "6eb0c1ee029ecfff89ffa9aa277552fc550d25e03c4c1c4f9e3fca33974c3b74") true
    holds (fun _ h => by cases h) (by kernel_rfl) (fun _ h => by cases h) traceParse_row_tie rfl ⟨rfl, rfl⟩ (by kernel_rfl) rfl
    (fun f fn hf hfn => by
      obtain rfl : f = 4 := Option.some.inj ((show Tryz.prog.funcNamed "omnibus/omnibuslaw.TraceParse" = some 4 by kernel_rfl).symm.trans hf) |>.symm
      obtain rfl : fn = Tryz.f4 := (Option.some.inj (Tryz.func4.symm.trans hfn)).symm
      exact ⟨by kernel_rfl, fun j t ht => by
        rw [Tryz.params4] at ht
        have hm : t ∈ [9] := by simpa using Array.mem_of_getElem? ht
        have hall : ([9].all fun u => !Tryz.prog.wantsStandIn u) = true := by kernel_rfl
        exact (show Tryz.prog.wantsStandIn t = false by simpa using List.all_eq_true.1 hall t hm)⟩)
    (by kernel_rfl)
end traceParseLaw

end Go.Proofs.YtdenmllkjdijlaaGreatDoor
