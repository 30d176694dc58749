/- The law 'TracePrint' returns true for whatever can be read as its arguments; condition: the package-level variables that its row lists hold what the program's text lays (tied by the card); the arguments read behind the call as they did. -/
import Derived.Test.YtdenmllkjdijlaaDoorTP0
import Derived.Test.YtdenmllkjdijlaaDoorTP1
import Derived.Test.YtdenmllkjdijlaaDoorTP2
import Derived.Test.YtdenmllkjdijlaaDoorTP3
import Derived.Test.YtdenmllkjdijlaaDoorTie
import Derived.Test.YtdenmllkjdijlaaDoorCards
import Derived.Lay
import Derived.LaidMore
import Derived.SevenTiedAt
import Derived.Stop.LaidErr
set_option linter.unusedVariables false
set_option linter.unusedSimpArgs false
namespace Go.Proofs.YtdenmllkjdijlaaDoor
namespace tracePrintLaw
open Go.Sy Go.RowKit Go.ChangeShapes Go.WideShapes Go.ChangeAt
theorem own : ownKnob Tryd.prog.godebug = none := by kernel_rfl
theorem laidOut : laidOutB Tryd.prog = true := by kernel_rfl
set_option maxRecDepth 100000 in
theorem contract (H : Type) (enc : TypeId × Value → H) (W : World) (base : Nat) (args : Array Value) (ds gs : List (DataW H)) (before : List MemPlace)
    (hval : ∀ (j : Nat) t v, Tryd.f4.params[j]? = some t → args[j]? = some v → Value.okWide Tryd.prog W .any base t v)
    (hW : DataW.Whole enc Tryd.prog Tryd.f4.params.toList Rows.tracePrintSpec.vars false W args.toList ds gs before) (hX : laidMetH Tryd.prog Rows.tracePrintRow.laid W) (hwt0 : (DataW.weightsEach Tryd.prog (Tryd.f4.params.toList ++ Rows.tracePrintSpec.plain.varTypes Tryd.prog) (ds ++ gs)).all (· ≤ reachBytes) = true) :
    Calls Tryd.prog 4 args W fun e W' => ∃ v, e = .returned v ∧ Rows.tracePrintSpec.post enc Tryd.prog Tryd.f4 false true false false W args v W' := by
  have hW1 := hW
  obtain ⟨p, q, hA0, hV, rfl, hfz, hnd⟩ := hW
  have hA : DataW.TrodAll enc Tryd.prog W 0 (fun _ => true) true Tryd.f4.params.toList args.toList ds p := hA0
  have hlt : ∀ x ∈ p ++ q, x.block < W.heap.size := fun x hx => by simpa using hW1.lt x hx
  obtain ⟨rfl, rfl⟩ := trodVars_none hV
  have hwt : ∀ n ∈ DataW.weightsEach Tryd.prog Tryd.f4.params.toList ds, n ≤ reachBytes := fun n hn => by
    have e1 : Tryd.f4.params.toList ++ Rows.tracePrintSpec.plain.varTypes Tryd.prog = Tryd.f4.params.toList := List.append_nil _
    rw [e1, List.append_nil] at hwt0
    simpa using List.all_eq_true.1 hwt0 n hn
  rw [Tryd.params4] at hA hval hwt
  obtain ⟨v0, vs0, d0, ds0, p0, r0, hargs, rfl, rfl, h0, hA1⟩ := trodAll_cons hA
  obtain ⟨rfl, rfl, rfl⟩ := trodAll_nil hA1
  obtain rfl : args = #[v0] := by cases args; simp_all
  have hk0 := h0
  obtain ⟨fu0, t0⟩ := h0
  have hv0 := hval 0 22 v0 rfl rfl
  have hc0 := arg_nonagg (by kernel_rfl) hv0
  rw [hc0] at t0
  obtain ⟨q0, e0, k0⟩ := (rd_slice (P := Tryd.prog) (t := 22) (e := 31) (bytes := 64) (by kernel_rfl) rdLine).read enc W fu0 _ _ t0 (fun n hn => hwt n (mem_weightsEach (i := 0) rfl rfl n hn))
  obtain ⟨ao0a, cap0a, f0, s0a⟩ := e0
  obtain rfl : v0 = .slice ao0a q0.length cap0a := by have f : [v0] = [.slice ao0a q0.length cap0a] := f0; simpa using f
  have hX0 : laidMet Tryd.prog Rows.tracePrintRow.laid W := by rw [← MakeChecks.laidMetH_plain _ _ _ (by kernel_rfl)]; exact hX
  have hX0_0 := laidMet.tail hX0
  have hX0_1 := laidMet.tail hX0_0
  have hg0 := tabF_of (g := 0) (Lib.tabIs_of_head (P := Tryd.prog) (W := W) (name := "internal/strconv.uint64pow10") (k := .u64) (zs := Lib.pow10Tab) (g := 0) (t := 104) (e := 83) (n := 20) (by kernel_rfl) (by kernel_rfl) (by kernel_rfl) (by kernel_rfl) (by kernel_rfl) (by kernel_rfl) hX0_1) (by kernel_rfl)
  have hX6 : laidMet Tryd.prog Rows.tracePrintRow.laid W := by rw [← MakeChecks.laidMetH_plain _ _ _ (by kernel_rfl)]; exact hX
  have hX6_0 := laidMet.tail hX6
  have hX6_1 := laidMet.tail hX6_0
  have hX6_2 := laidMet.tail hX6_1
  have hX6_3 := laidMet.tail hX6_2
  have hX6_4 := laidMet.tail hX6_3
  have hg6 := (let ⟨_, _, hv9, _⟩ := laid_sentinel (W := W) hX6_4 (g := 6) (ti := 41) (tp := 136) (te := 138) (ts := 9) (by kernel_rfl) (by kernel_rfl) Tryd.underlying41 rowE Tryd.underlying136 Tryd.underlying138 rfl rfl Tryd.underlying9 (by kernel_rfl) (by kernel_rfl); errR_of (g := 6) hv9 (by kernel_rfl))
  have hX7 : laidMet Tryd.prog Rows.tracePrintRow.laid W := by rw [← MakeChecks.laidMetH_plain _ _ _ (by kernel_rfl)]; exact hX
  have hX7_0 := laidMet.tail hX7
  have hX7_1 := laidMet.tail hX7_0
  have hX7_2 := laidMet.tail hX7_1
  have hX7_3 := laidMet.tail hX7_2
  have hg7 := (let ⟨_, _, hv9, _⟩ := laid_sentinel (W := W) hX7_3 (g := 7) (ti := 41) (tp := 136) (te := 138) (ts := 9) (by kernel_rfl) (by kernel_rfl) Tryd.underlying41 rowE Tryd.underlying136 Tryd.underlying138 rfl rfl Tryd.underlying9 (by kernel_rfl) (by kernel_rfl); errR_of (g := 7) hv9 (by kernel_rfl))
  have hX3 : laidMet Tryd.prog Rows.tracePrintRow.laid W := by rw [← MakeChecks.laidMetH_plain _ _ _ (by kernel_rfl)]; exact hX
  have hX3_0 := laidMet.tail hX3
  have hg3 := gl_of (g := 3) (Lib.tabIs_of_head (P := Tryd.prog) (W := W) (name := "math/bits.deBruijn64tab") (k := .u8) (zs := deBruijn64) (g := 3) (t := 122) (e := 5) (n := 64) (by kernel_rfl) (by kernel_rfl) (by kernel_rfl) (by kernel_rfl) (by kernel_rfl) (by kernel_rfl) hX3_0) (by kernel_rfl) (by decide)
  refine (LPrint_walk q0 ao0a cap0a (Zw W) W s0a hg0 hg6 hg7 hg3 (Zw_on W) (K := fun r => r = true) (LPrint_ok2 q0 k0)).mono fun e W1 h => ?_
  obtain ⟨r, rfl, hr, hb⟩ := h
  subst hr
  refine ⟨_, rfl, _, [], _, [], (p0 ++ []), [], hW1, trodAll_mk1 (shut_bool (by kernel_rfl) _), ?_, rfl, hb.frame _, fun h => by cases h⟩
  rw [Tryd.params4]
  exact (trodAll_cons_mk (Below.trod laidOut (by kernel_rfl) (of_decide_eq_true (by kernel_rfl)) hk0 hb (fun x hx => hlt x (by simp [hx]))) trodAll_mk0)
set_option maxRecDepth 100000 in
theorem lifted (os : Os) (started : os.Started) (H : Type) (enc : TypeId × Value → H) :
    ReturnsInHanded {} Tryd.checked os 4 .any (fun w args => (Rows.tracePrintSpec.pre enc Tryd.prog Tryd.f4 [] false w args ∧ laidMetH Tryd.prog Rows.tracePrintRow.laid w) ∧ sizedMet enc Tryd.prog Tryd.f4 (OpenSpec.ofChange Rows.tracePrintSpec) false w args) (Rows.tracePrintSpec.post enc Tryd.prog Tryd.f4 false true false false) := by
  refine returnsInHanded_of_change_and (C := Tryd.checked) (X := fun w _ => laidMetH Tryd.prog Rows.tracePrintRow.laid w) (fun _ _ _ hh h => h.of_heap hh) own started (by kernel_rfl) Tryd.func4
    (ChangeSpec.witness_shaped (enc := enc) (C := Tryd.checked) (os := os) (X := fun w _ => laidMetH Tryd.prog Rows.tracePrintRow.laid w) false (World.laidAll Tryd.prog os Rows.tracePrintRow.laid) #[.slice none 0 0] 8 (World.laidAll_os _ _ _)
      (World.shaped_of_ZipB (by kernel_rfl) (by kernel_rfl)) (by kernel_rfl) (by kernel_rfl) (by kernel_rfl)
      (by rw [MakeChecks.laidMetH_plain _ _ _ (by kernel_rfl)]; exact laidMet_laidAll _ (by kernel_rfl) (by kernel_rfl))) ?_
  intro W base args ds gs before hval hW x1 hwt x2 x3
  exact contract H enc W base args ds gs before hval hW (by first | exact x1 | exact x2 | exact x3 | exact x1.2 | exact x2.2 | exact x3.2 | exact x1.1 | exact x2.1 | exact x3.1) hwt
theorem holds : Rows.TracePrintSaid :=
  OpenClaim.holds_of_wide 4 Tryd.f4 rfl rfl rfl rfl rfl rfl rfl ⟨rfl, rfl, rfl, rfl, rfl⟩ rfl rfl rfl rfl rfl (by kernel_rfl) Tryd.func4 (by kernel_rfl)
    (of_decide_eq_true (by kernel_rfl)) (by unfold Func.isWrapper; first | (rw [if_pos (by decide +kernel)]; kernel_rfl) | (rw [if_neg (by decide +kernel)]; exact ⟨rfl, rfl⟩))
    (fun os started H enc _ => lifted os started H enc)
theorem proved : Rows.TracePrintCardSaid :=
  Claim7.holds_tied_plain_at .later [] [.data, .data, .data, .data, .sentinel, .sentinel, .pinned] true (true, "a22ee29de701956f43edbd631093d4916683e239dbad10d1402a3fb67f195746") true
    holds (fun _ h => by cases h) (by kernel_rfl) (fun _ h => by cases h) tracePrint_row_tie rfl ⟨rfl, rfl⟩ (by kernel_rfl) rfl
    (fun f fn hf hfn => by
      obtain rfl : f = 4 := Option.some.inj ((show Tryd.prog.funcNamed "omnibus/omnibuslaw.TracePrint" = some 4 by kernel_rfl).symm.trans hf) |>.symm
      obtain rfl : fn = Tryd.f4 := (Option.some.inj (Tryd.func4.symm.trans hfn)).symm
      exact ⟨by kernel_rfl, fun j t ht => by
        rw [Tryd.params4] at ht
        have hm : t ∈ [22] := by simpa using Array.mem_of_getElem? ht
        have hall : ([22].all fun u => !Tryd.prog.wantsStandIn u) = true := by kernel_rfl
        exact (show Tryd.prog.wantsStandIn t = false by simpa using List.all_eq_true.1 hall t hm)⟩)
    (by kernel_rfl)
end tracePrintLaw

end Go.Proofs.YtdenmllkjdijlaaDoor
