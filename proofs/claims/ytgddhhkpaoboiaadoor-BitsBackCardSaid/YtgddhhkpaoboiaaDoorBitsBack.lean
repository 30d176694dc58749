/- The law 'BitsBack' returns true for whatever can be read as its arguments; condition: the package-level variables that its row lists hold what the program's text lays (tied by the card); the arguments read behind the call as they did. -/
import Derived.Test.YtgddhhkpaoboiaaDoorKb0
import Derived.Test.YtgddhhkpaoboiaaDoorKb1
import Derived.Test.YtgddhhkpaoboiaaDoorKb2
import Derived.Test.YtgddhhkpaoboiaaDoorTie
import Derived.Test.YtgddhhkpaoboiaaDoorCards
import Derived.Lay
import Derived.LaidMore
import Derived.SevenTiedAt
import Derived.Stop.LaidErr
set_option linter.unusedVariables false
set_option linter.unusedSimpArgs false
namespace Go.Proofs.YtgddhhkpaoboiaaDoor
namespace bitsBackLaw
open Go.Sy Go.RowKit Go.ChangeShapes Go.WideShapes Go.ChangeAt
theorem own : ownKnob Tryd.prog.godebug = none := by kernel_rfl
theorem laidOut : laidOutB Tryd.prog = true := by kernel_rfl
set_option maxRecDepth 100000 in
theorem contract (H : Type) (enc : TypeId × Value → H) (W : World) (base : Nat) (args : Array Value) (ds gs : List (DataW H)) (before : List MemPlace)
    (hval : ∀ (j : Nat) t v, Tryd.f3.params[j]? = some t → args[j]? = some v → Value.okWide Tryd.prog W .any base t v)
    (hW : DataW.Whole enc Tryd.prog Tryd.f3.params.toList Rows.bitsBackSpec.vars false W args.toList ds gs before) (hX : laidMetH Tryd.prog Rows.bitsBackRow.laid W) (hwt0 : (DataW.weightsEach Tryd.prog (Tryd.f3.params.toList ++ Rows.bitsBackSpec.plain.varTypes Tryd.prog) (ds ++ gs)).all (· ≤ reachBytes) = true) :
    Calls Tryd.prog 3 args W fun e W' => ∃ v, e = .returned v ∧ Rows.bitsBackSpec.post enc Tryd.prog Tryd.f3 false true false false W args v W' := by
  have hW1 := hW
  obtain ⟨p, q, hA0, hV, rfl, hfz, hnd⟩ := hW
  have hA : DataW.TrodAll enc Tryd.prog W 0 (fun _ => true) true Tryd.f3.params.toList args.toList ds p := hA0
  have hlt : ∀ x ∈ p ++ q, x.block < W.heap.size := fun x hx => by simpa using hW1.lt x hx
  obtain ⟨rfl, rfl⟩ := trodVars_none hV
  have hwt : ∀ n ∈ DataW.weightsEach Tryd.prog Tryd.f3.params.toList ds, n ≤ reachBytes := fun n hn => by
    have e1 : Tryd.f3.params.toList ++ Rows.bitsBackSpec.plain.varTypes Tryd.prog = Tryd.f3.params.toList := List.append_nil _
    rw [e1, List.append_nil] at hwt0
    simpa using List.all_eq_true.1 hwt0 n hn
  rw [Tryd.params3] at hA hval hwt
  obtain ⟨v0, vs0, d0, ds0, p0, r0, hargs, rfl, rfl, h0, hA1⟩ := trodAll_cons hA
  obtain ⟨v1, vs1, d1, ds1, p1, r1, rfl, rfl, rfl, h1, hA2⟩ := trodAll_cons hA1
  obtain ⟨v2, vs2, d2, ds2, p2, r2, rfl, rfl, rfl, h2, hA3⟩ := trodAll_cons hA2
  obtain ⟨v3, vs3, d3, ds3, p3, r3, rfl, rfl, rfl, h3, hA4⟩ := trodAll_cons hA3
  obtain ⟨rfl, rfl, rfl⟩ := trodAll_nil hA4
  obtain rfl : args = #[v0, v1, v2, v3] := by cases args; simp_all
  have hk0 := h0
  obtain ⟨fu0, t0⟩ := h0
  have hv0 := hval 0 3 v0 rfl rfl
  have hc0 := arg_nonagg (by kernel_rfl) hv0
  rw [hc0] at t0
  obtain ⟨q0, e0, k0⟩ := (rd_int (P := Tryd.prog) (t := 3) (k := .i64) (by kernel_rfl)).read enc W fu0 _ _ t0 (fun n hn => hwt n (mem_weightsEach (i := 0) rfl rfl n hn))
  have f0 := e0
  obtain rfl : v0 = .int .i64 q0 := by have f : [v0] = [.int .i64 q0] := f0; simpa using f
  have hk1 := h1
  obtain ⟨fu1, t1⟩ := h1
  have hv1 := hval 1 3 v1 rfl rfl
  have hc1 := arg_nonagg (by kernel_rfl) hv1
  rw [hc1] at t1
  obtain ⟨q1, e1, k1⟩ := (rd_int (P := Tryd.prog) (t := 3) (k := .i64) (by kernel_rfl)).read enc W fu1 _ _ t1 (fun n hn => hwt n (mem_weightsEach (i := 1) rfl rfl n hn))
  have f1 := e1
  obtain rfl : v1 = .int .i64 q1 := by have f : [v1] = [.int .i64 q1] := f1; simpa using f
  have hk2 := h2
  obtain ⟨fu2, t2⟩ := h2
  have hv2 := hval 2 22 v2 rfl rfl
  have hc2 := arg_nonagg (by kernel_rfl) hv2
  rw [hc2] at t2
  obtain ⟨q2, e2, k2⟩ := (rd_slice (P := Tryd.prog) (t := 22) (e := 5) (bytes := 1) (by kernel_rfl) (rd_int (P := Tryd.prog) (t := 5) (k := .u8) (by kernel_rfl))).read enc W fu2 _ _ t2 (fun n hn => hwt n (mem_weightsEach (i := 2) rfl rfl n hn))
  obtain ⟨ao2a, cap2a, f2, s2a⟩ := e2
  obtain rfl : v2 = .slice ao2a q2.length cap2a := by have f : [v2] = [.slice ao2a q2.length cap2a] := f2; simpa using f
  have hk3 := h3
  obtain ⟨fu3, t3⟩ := h3
  have hv3 := hval 3 9 v3 rfl rfl
  have hc3 := arg_nonagg (by kernel_rfl) hv3
  rw [hc3] at t3
  obtain ⟨q3, e3, k3⟩ := (rd_str (P := Tryd.prog) (t := 9) (by kernel_rfl)).read enc W fu3 _ _ t3 (fun n hn => hwt n (mem_weightsEach (i := 3) rfl rfl n hn))
  have f3 := e3
  obtain rfl : v3 = str q3 := by have f : [v3] = [str q3] := f3; simpa using f
  have hXu : laidMet Tryd.prog Rows.bitsBackRow.laid W := by rw [← MakeChecks.laidMetH_plain _ _ _ (by kernel_rfl)]; exact hX
  have hU : Lib.Utf8Tabs 0 1 W := utf8Tabs_of_readsT Tryd.lays230_u8T Tryd.lays230_u8X (Lib.laidMet.reads hXu (List.mem_of_getElem? (i := 1) (by kernel_rfl))) (Lib.laidMet.reads hXu (List.mem_of_getElem? (i := 0) (by kernel_rfl)))
  have hg0 := u8first_sl hU
  have hg1 := u8acc_sl hU
  refine (LBBack_walk q0 q1 q2 q3 ao2a cap2a (Zw W) W s2a hg0 hg1 (Zw_on W) (K := fun r => r = true) (LBBack_ok2 q0 q1 q2 q3 k0 k1 k2 k3)).mono fun e W1 h => ?_
  obtain ⟨r, rfl, hr, hb⟩ := h
  subst hr
  refine ⟨_, rfl, _, [], _, [], (p0 ++ (p1 ++ (p2 ++ (p3 ++ [])))), [], hW1, trodAll_mk1 (shut_bool (by kernel_rfl) _), ?_, rfl, hb.frame _, fun h => by cases h⟩
  rw [Tryd.params3]
  exact (trodAll_cons_mk (Below.trod laidOut (by kernel_rfl) (of_decide_eq_true (by kernel_rfl)) hk0 hb (fun x hx => hlt x (by simp [hx]))) (trodAll_cons_mk (Below.trod laidOut (by kernel_rfl) (of_decide_eq_true (by kernel_rfl)) hk1 hb (fun x hx => hlt x (by simp [hx]))) (trodAll_cons_mk (Below.trod laidOut (by kernel_rfl) (of_decide_eq_true (by kernel_rfl)) hk2 hb (fun x hx => hlt x (by simp [hx]))) (trodAll_cons_mk (Below.trod laidOut (by kernel_rfl) (of_decide_eq_true (by kernel_rfl)) hk3 hb (fun x hx => hlt x (by simp [hx]))) trodAll_mk0))))
set_option maxRecDepth 100000 in
theorem lifted (os : Os) (started : os.Started) (H : Type) (enc : TypeId × Value → H) :
    ReturnsInHanded {} Tryd.checked os 3 .any (fun w args => (Rows.bitsBackSpec.pre enc Tryd.prog Tryd.f3 [] false w args ∧ laidMetH Tryd.prog Rows.bitsBackRow.laid w) ∧ sizedMet enc Tryd.prog Tryd.f3 (OpenSpec.ofChange Rows.bitsBackSpec) false w args) (Rows.bitsBackSpec.post enc Tryd.prog Tryd.f3 false true false false) := by
  refine returnsInHanded_of_change_and (C := Tryd.checked) (X := fun w _ => laidMetH Tryd.prog Rows.bitsBackRow.laid w) (fun _ _ _ hh h => h.of_heap hh) own started (by kernel_rfl) Tryd.func3
    (ChangeSpec.witness_shaped (enc := enc) (C := Tryd.checked) (os := os) (X := fun w _ => laidMetH Tryd.prog Rows.bitsBackRow.laid w) false (World.laidAll Tryd.prog os Rows.bitsBackRow.laid) #[.int .i64 0, .int .i64 0, .slice none 0 0, str []] 8 (World.laidAll_os _ _ _)
      (World.shaped_of_ZipB (by kernel_rfl) (by kernel_rfl)) (by kernel_rfl) (by kernel_rfl) (by kernel_rfl)
      (by rw [MakeChecks.laidMetH_plain _ _ _ (by kernel_rfl)]; exact laidMet_laidAll _ (by kernel_rfl) (by kernel_rfl))) ?_
  intro W base args ds gs before hval hW x1 hwt x2 x3
  exact contract H enc W base args ds gs before hval hW (by first | exact x1 | exact x2 | exact x3 | exact x1.2 | exact x2.2 | exact x3.2 | exact x1.1 | exact x2.1 | exact x3.1) hwt
theorem holds : Rows.BitsBackSaid :=
  OpenClaim.holds_of_wide 3 Tryd.f3 rfl rfl rfl rfl rfl rfl rfl ⟨rfl, rfl, rfl, rfl, rfl⟩ rfl rfl rfl rfl rfl (by kernel_rfl) Tryd.func3 (by kernel_rfl)
    (of_decide_eq_true (by kernel_rfl)) (by unfold Func.isWrapper; first | (rw [if_pos (by decide +kernel)]; kernel_rfl) | (rw [if_neg (by decide +kernel)]; exact ⟨rfl, rfl⟩))
    (fun os started H enc _ => lifted os started H enc)
theorem proved : Rows.BitsBackCardSaid :=
  Claim7.holds_tied_plain_at .later [] [.data, .pinned] true (true, "7555e8999dfc055f0d6a00383a3730295dabf23eaba24bebbc5187c4f2086d36") false
    holds (fun _ h => by cases h) (by kernel_rfl) (fun _ h => by cases h) bitsBack_row_tie rfl ⟨rfl, rfl⟩ (by kernel_rfl) rfl
    (fun f fn hf hfn => by
      obtain rfl : f = 3 := Option.some.inj ((show Tryd.prog.funcNamed "omnibus/omnibuslaw.BitsBack" = some 3 by kernel_rfl).symm.trans hf) |>.symm
      obtain rfl : fn = Tryd.f3 := (Option.some.inj (Tryd.func3.symm.trans hfn)).symm
      exact ⟨by kernel_rfl, fun j t ht => by
        rw [Tryd.params3] at ht
        have hm : t ∈ [3, 3, 22, 9] := by simpa using Array.mem_of_getElem? ht
        have hall : ([3, 3, 22, 9].all fun u => !Tryd.prog.wantsStandIn u) = true := by kernel_rfl
        exact (show Tryd.prog.wantsStandIn t = false by simpa using List.all_eq_true.1 hall t hm)⟩)
    (by kernel_rfl)
end bitsBackLaw

end Go.Proofs.YtgddhhkpaoboiaaDoor
