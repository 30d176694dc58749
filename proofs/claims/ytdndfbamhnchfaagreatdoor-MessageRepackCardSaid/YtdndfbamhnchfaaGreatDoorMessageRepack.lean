/- The law 'MessageRepack' returns true for whatever can be read as its arguments; condition: the package-level variables that its row lists hold what the program's text lays (tied by the card); the arguments read behind the call as they did. -/
import Derived.Test.YtdndfbamhnchfaaGreatDoorMR0
import Derived.Test.YtdndfbamhnchfaaGreatDoorMR1
import Derived.Test.YtdndfbamhnchfaaGreatDoorMR2
import Derived.Test.YtdndfbamhnchfaaGreatDoorMR3
import Derived.Test.YtdndfbamhnchfaaGreatDoorMR4
import Derived.Test.YtdndfbamhnchfaaGreatDoorMR5
import Derived.Test.YtdndfbamhnchfaaGreatDoorMR6
import Derived.Test.YtdndfbamhnchfaaGreatDoorTie
import Derived.Test.YtdndfbamhnchfaaGreatDoorCards
import Derived.Lay
import Derived.LaidMore
import Derived.SevenTiedAt
set_option linter.unusedVariables false
set_option linter.unusedSimpArgs false
namespace Go.Proofs.YtdndfbamhnchfaaGreatDoor
namespace messageRepackLaw
open Go.Sy Go.RowKit Go.ChangeShapes Go.WideShapes Go.ChangeAt
theorem own : ownKnob Tryz.prog.godebug = none := by kernel_rfl
theorem laidOut : laidOutB Tryz.prog = true := by kernel_rfl
set_option maxRecDepth 100000 in
theorem contract (H : Type) (enc : TypeId × Value → H) (W : World) (base : Nat) (args : Array Value) (ds gs : List (DataW H)) (before : List MemPlace) (hval : ∀ (j : Nat) t v, Tryz.f5.params[j]? = some t → args[j]? = some v → Value.okWide Tryz.prog W .any base t v) (hW : DataW.Whole enc Tryz.prog Tryz.f5.params.toList Rows.messageRepackSpec.vars false W args.toList ds gs before) (hwt0 : (DataW.weightsEach Tryz.prog (Tryz.f5.params.toList ++ Rows.messageRepackSpec.plain.varTypes Tryz.prog) (ds ++ gs)).all (· ≤ reachBytes) = true) : Calls Tryz.prog 5 args W fun e W' => ∃ v, e = .returned v ∧ Rows.messageRepackSpec.post enc Tryz.prog Tryz.f5 false true false false W args v W' := by
 have hW1 := hW
 obtain ⟨p, q, hA0, hV, rfl, hfz, hnd⟩ := hW
 have hA : DataW.TrodAll enc Tryz.prog W 0 (fun _ => true) true Tryz.f5.params.toList args.toList ds p := hA0
 have hlt : ∀ x ∈ p ++ q, x.block < W.heap.size := fun x hx => by simpa using hW1.lt x hx
 obtain ⟨rfl, rfl⟩ := trodVars_none hV
 have hwt : ∀ n ∈ DataW.weightsEach Tryz.prog Tryz.f5.params.toList ds, n ≤ reachBytes := fun n hn => by
  have e1 : Tryz.f5.params.toList ++ Rows.messageRepackSpec.plain.varTypes Tryz.prog = Tryz.f5.params.toList := List.append_nil _
  rw [e1, List.append_nil] at hwt0
  simpa using List.all_eq_true.1 hwt0 n hn
 rw [Tryz.params5] at hA hval hwt
 obtain ⟨v0, vs0, d0, ds0, p0, r0, hargs, rfl, rfl, h0, hA1⟩ := trodAll_cons hA
 obtain ⟨v1, vs1, d1, ds1, p1, r1, rfl, rfl, rfl, h1, hA2⟩ := trodAll_cons hA1
 obtain ⟨v2, vs2, d2, ds2, p2, r2, rfl, rfl, rfl, h2, hA3⟩ := trodAll_cons hA2
 obtain ⟨rfl, rfl, rfl⟩ := trodAll_nil hA3
 obtain rfl : args = #[v0, v1, v2] := by cases args; simp_all
 have hk0 := h0
 obtain ⟨fu0, t0⟩ := h0
 have hv0 := hval 0 24 v0 rfl rfl
 obtain ⟨c0, rfl, hc0⟩ := arg_agg (k := 6) (by kernel_rfl) hv0
 rw [hc0] at t0
 obtain ⟨q0, e0, k0⟩ := rdMessage.read enc W fu0 _ _ t0 (fun n hn => hwt n (mem_weightsEach (i := 0) rfl rfl n hn))
 obtain ⟨ao0a, cap0a, f0, s0a⟩ := e0
 obtain rfl : c0 = [.int .i64 q0.ID, .bool q0.Long, str q0.Name, .int .i64 q0.Size, .int .i64 q0.Chooser, .slice ao0a q0.Signals.length cap0a] := f0
 have hk1 := h1
 obtain ⟨fu1, t1⟩ := h1
 have hv1 := hval 1 24 v1 rfl rfl
 obtain ⟨c1, rfl, hc1⟩ := arg_agg (k := 6) (by kernel_rfl) hv1
 rw [hc1] at t1
 obtain ⟨q1, e1, k1⟩ := rdMessage.read enc W fu1 _ _ t1 (fun n hn => hwt n (mem_weightsEach (i := 1) rfl rfl n hn))
 obtain ⟨ao1a, cap1a, f1, s1a⟩ := e1
 obtain rfl : c1 = [.int .i64 q1.ID, .bool q1.Long, str q1.Name, .int .i64 q1.Size, .int .i64 q1.Chooser, .slice ao1a q1.Signals.length cap1a] := f1
 have hk2 := h2
 obtain ⟨fu2, t2⟩ := h2
 have hv2 := hval 2 27 v2 rfl rfl
 obtain ⟨c2, rfl, hc2⟩ := arg_agg (k := 6) (by kernel_rfl) hv2
 rw [hc2] at t2
 obtain ⟨q2, e2, k2⟩ := rdFrame.read enc W fu2 _ _ t2 (fun n hn => hwt n (mem_weightsEach (i := 2) rfl rfl n hn))
 obtain ⟨ao2a, cap2a, f2, s2a⟩ := e2
 obtain rfl : c2 = [.int .i64 q2.ID, .bool q2.Long, .bool q2.Fast, .bool q2.Remote, .int .i64 q2.Size, .slice ao2a q2.Data.length cap2a] := f2
 refine (LMRepack_walk q0 q1 q2 ao0a cap0a ao1a cap1a ao2a cap2a (Zw W) W s0a s1a s2a (Zw_on W) (K := fun r => r = true) (LMRepack_ok q0 q1 q2 k0 k1 k2)).mono fun e W1 h => ?_
 obtain ⟨r, rfl, hr, hb⟩ := h
 subst hr
 refine ⟨_, rfl, _, [], _, [], (p0 ++ (p1 ++ (p2 ++ []))), [], hW1, trodAll_mk1 (shut_bool (by kernel_rfl) _), ?_, rfl, hb.frame _, fun h => by cases h⟩
 rw [Tryz.params5]
 exact (trodAll_cons_mk (Below.trod laidOut (by kernel_rfl) (of_decide_eq_true (by kernel_rfl)) hk0 hb (fun x hx => hlt x (by simp [hx]))) (trodAll_cons_mk (Below.trod laidOut (by kernel_rfl) (of_decide_eq_true (by kernel_rfl)) hk1 hb (fun x hx => hlt x (by simp [hx]))) (trodAll_cons_mk (Below.trod laidOut (by kernel_rfl) (of_decide_eq_true (by kernel_rfl)) hk2 hb (fun x hx => hlt x (by simp [hx]))) trodAll_mk0)))
set_option maxRecDepth 100000 in
theorem lifted (os : Os) (started : os.Started) (H : Type) (enc : TypeId × Value → H) : ReturnsInHanded {} Tryz.checked os 5 .any (fun w args => (Rows.messageRepackSpec.pre enc Tryz.prog Tryz.f5 [] false w args ∧ laidMetH Tryz.prog Rows.messageRepackRow.laid w) ∧ sizedMet enc Tryz.prog Tryz.f5 (OpenSpec.ofChange Rows.messageRepackSpec) false w args) (Rows.messageRepackSpec.post enc Tryz.prog Tryz.f5 false true false false) := by
 refine returnsInHanded_of_change_and (C := Tryz.checked) (X := fun w _ => laidMetH Tryz.prog Rows.messageRepackRow.laid w) (fun _ _ _ hh h => h.of_heap hh) own started (by kernel_rfl) Tryz.func5
  (ChangeSpec.witness_shaped (enc := enc) (C := Tryz.checked) (os := os) (X := fun w _ => laidMetH Tryz.prog Rows.messageRepackRow.laid w) false (World.laidAll Tryz.prog os Rows.messageRepackRow.laid) #[.agg #[.int .i64 0, .bool false, str [], .int .i64 0, .int .i64 0, .slice none 0 0], .agg #[.int .i64 0, .bool false, str [], .int .i64 0, .int .i64 0, .slice none 0 0], .agg #[.int .i64 0, .bool false, .bool false, .bool false, .int .i64 0, .slice none 0 0]] 8 (World.laidAll_os _ _ _)
   (World.shaped_of_ZipB (by kernel_rfl) (by kernel_rfl)) (by kernel_rfl) (by kernel_rfl) (by kernel_rfl)
   (by rw [MakeChecks.laidMetH_plain _ _ _ (by kernel_rfl)]; exact laidMet_laidAll _ (by kernel_rfl) (by kernel_rfl))) ?_
 intro W base args ds gs before hval hW _ hwt _ _
 exact contract H enc W base args ds gs before hval hW hwt
theorem holds : Rows.MessageRepackSaid :=
 OpenClaim.holds_of_wide 5 Tryz.f5 rfl rfl rfl rfl rfl rfl rfl ⟨rfl, rfl, rfl, rfl, rfl⟩ rfl rfl rfl rfl rfl (by kernel_rfl) Tryz.func5 (by kernel_rfl)
  (of_decide_eq_true (by kernel_rfl)) (by unfold Func.isWrapper; first | (rw [if_pos (by decide +kernel)]; kernel_rfl) | (rw [if_neg (by decide +kernel)]; exact ⟨rfl, rfl⟩))
  (fun os started H enc _ => lifted os started H enc)
theorem proved : Rows.MessageRepackCardSaid :=
 Claim7.holds_tied_plain_at .later [] [.data, .pinned] true (true, "e06a57da351197e9e74d40619f674f7772f06c72df3218b2d87e40b5efe25e18") false
  holds (fun _ h => by cases h) (by kernel_rfl) (fun _ h => by cases h) messageRepack_row_tie rfl ⟨rfl, rfl⟩ (by kernel_rfl) rfl
  (fun f fn hf hfn => by
   obtain rfl : f = 5 := Option.some.inj ((show Tryz.prog.funcNamed "omnibus/omnibuslaw.MessageRepack" = some 5 by kernel_rfl).symm.trans hf) |>.symm
   obtain rfl : fn = Tryz.f5 := (Option.some.inj (Tryz.func5.symm.trans hfn)).symm
   exact ⟨by kernel_rfl, fun j t ht => by
    rw [Tryz.params5] at ht
    have hm : t ∈ [24, 24, 27] := by simpa using Array.mem_of_getElem? ht
    have hall : ([24, 24, 27].all fun u => !Tryz.prog.wantsStandIn u) = true := by kernel_rfl
    exact (show Tryz.prog.wantsStandIn t = false by simpa using List.all_eq_true.1 hall t hm)⟩)
  (by kernel_rfl)
end messageRepackLaw
end Go.Proofs.YtdndfbamhnchfaaGreatDoor
