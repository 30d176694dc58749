/- The law 'MessageWrite' returns true for whatever can be read as its arguments; condition: the package-level variables that its row lists hold what the program's text lays (tied by the card); the arguments read behind the call as they did. -/
import Derived.Test.YtdndfbamhnchfaaGreatDoorMW0
import Derived.Test.YtdndfbamhnchfaaGreatDoorMW1
import Derived.Test.YtdndfbamhnchfaaGreatDoorMW2
import Derived.Test.YtdndfbamhnchfaaGreatDoorMW3
import Derived.Test.YtdndfbamhnchfaaGreatDoorMW4
import Derived.Test.YtdndfbamhnchfaaGreatDoorMW5
import Derived.Test.YtdndfbamhnchfaaGreatDoorMW6
import Derived.Test.YtdndfbamhnchfaaGreatDoorTie
import Derived.Test.YtdndfbamhnchfaaGreatDoorCards
import Derived.Lay
import Derived.LaidMore
import Derived.SevenTiedAt
set_option linter.unusedVariables false
set_option linter.unusedSimpArgs false
namespace Go.Proofs.YtdndfbamhnchfaaGreatDoor
namespace messageWriteLaw
open Go.Sy Go.RowKit Go.ChangeShapes Go.WideShapes Go.ChangeAt
theorem own : ownKnob Tryz.prog.godebug = none := by kernel_rfl
theorem laidOut : laidOutB Tryz.prog = true := by kernel_rfl
set_option maxRecDepth 100000 in
theorem contract (H : Type) (enc : TypeId × Value → H) (W : World) (base : Nat) (args : Array Value) (ds gs : List (DataW H)) (before : List MemPlace) (hval : ∀ (j : Nat) t v, Tryz.f4.params[j]? = some t → args[j]? = some v → Value.okWide Tryz.prog W .any base t v) (hW : DataW.Whole enc Tryz.prog Tryz.f4.params.toList Rows.messageWriteSpec.vars false W args.toList ds gs before) (hwt0 : (DataW.weightsEach Tryz.prog (Tryz.f4.params.toList ++ Rows.messageWriteSpec.plain.varTypes Tryz.prog) (ds ++ gs)).all (· ≤ reachBytes) = true) : Calls Tryz.prog 4 args W fun e W' => ∃ v, e = .returned v ∧ Rows.messageWriteSpec.post enc Tryz.prog Tryz.f4 false true false false W args v W' := by
 have hW1 := hW
 obtain ⟨p, q, hA0, hV, rfl, hfz, hnd⟩ := hW
 have hA : DataW.TrodAll enc Tryz.prog W 0 (fun _ => true) true Tryz.f4.params.toList args.toList ds p := hA0
 have hlt : ∀ x ∈ p ++ q, x.block < W.heap.size := fun x hx => by simpa using hW1.lt x hx
 obtain ⟨rfl, rfl⟩ := trodVars_none hV
 have hwt : ∀ n ∈ DataW.weightsEach Tryz.prog Tryz.f4.params.toList ds, n ≤ reachBytes := fun n hn => by
  have e1 : Tryz.f4.params.toList ++ Rows.messageWriteSpec.plain.varTypes Tryz.prog = Tryz.f4.params.toList := List.append_nil _
  rw [e1, List.append_nil] at hwt0
  simpa using List.all_eq_true.1 hwt0 n hn
 rw [Tryz.params4] at hA hval hwt
 obtain ⟨v0, vs0, d0, ds0, p0, r0, hargs, rfl, rfl, h0, hA1⟩ := trodAll_cons hA
 obtain ⟨v1, vs1, d1, ds1, p1, r1, rfl, rfl, rfl, h1, hA2⟩ := trodAll_cons hA1
 obtain ⟨rfl, rfl, rfl⟩ := trodAll_nil hA2
 obtain rfl : args = #[v0, v1] := by cases args; simp_all
 have hk0 := h0
 obtain ⟨fu0, t0⟩ := h0
 have hv0 := hval 0 24 v0 rfl rfl
 obtain ⟨c0, rfl, hc0⟩ := arg_agg (k := 6) (by kernel_rfl) hv0
 rw [hc0] at t0
 obtain ⟨q0, e0, k0⟩ := rdMessage.read enc W fu0 _ _ t0 (fun n hn => hwt n (mem_weightsEach (i := 0) rfl rfl n hn))
 obtain ⟨ao0a, cap0a, f0, s0a⟩ := e0
 obtain rfl : c0 = [.int .i64 q0.ID, .bool q0.Long, str q0.Name, .int .i64 q0.Size, .int .i64 q0.Chooser, .slice ao0a q0.Signals.length cap0a] := f0
 have hk1 := h1
 obtain ⟨fu1, t1⟩ := h1
 have hv1 := hval 1 28 v1 rfl rfl
 have hc1 := arg_nonagg (by kernel_rfl) hv1
 rw [hc1] at t1
 obtain ⟨q1, e1, k1⟩ := (rd_slice (P := Tryz.prog) (t := 28) (e := 37) (bytes := 32) (by kernel_rfl) rdReading).read enc W fu1 _ _ t1 (fun n hn => hwt n (mem_weightsEach (i := 1) rfl rfl n hn))
 obtain ⟨ao1a, cap1a, f1, s1a⟩ := e1
 obtain rfl : v1 = .slice ao1a q1.length cap1a := by have f : [v1] = [.slice ao1a q1.length cap1a] := f1; simpa using f
 refine (LMWrite_walk q0 q1 ao0a cap0a ao1a cap1a (Zw W) W s0a s1a (Zw_on W) (K := fun r => r = true) (LMWrite_ok q0 q1 k0 k1)).mono fun e W1 h => ?_
 obtain ⟨r, rfl, hr, hb⟩ := h
 subst hr
 refine ⟨_, rfl, _, [], _, [], (p0 ++ (p1 ++ [])), [], hW1, trodAll_mk1 (shut_bool (by kernel_rfl) _), ?_, rfl, hb.frame _, fun h => by cases h⟩
 rw [Tryz.params4]
 exact (trodAll_cons_mk (Below.trod laidOut (by kernel_rfl) (of_decide_eq_true (by kernel_rfl)) hk0 hb (fun x hx => hlt x (by simp [hx]))) (trodAll_cons_mk (Below.trod laidOut (by kernel_rfl) (of_decide_eq_true (by kernel_rfl)) hk1 hb (fun x hx => hlt x (by simp [hx]))) trodAll_mk0))
set_option maxRecDepth 100000 in
theorem lifted (os : Os) (started : os.Started) (H : Type) (enc : TypeId × Value → H) : ReturnsInHanded {} Tryz.checked os 4 .any (fun w args => (Rows.messageWriteSpec.pre enc Tryz.prog Tryz.f4 [] false w args ∧ laidMetH Tryz.prog Rows.messageWriteRow.laid w) ∧ sizedMet enc Tryz.prog Tryz.f4 (OpenSpec.ofChange Rows.messageWriteSpec) false w args) (Rows.messageWriteSpec.post enc Tryz.prog Tryz.f4 false true false false) := by
 refine returnsInHanded_of_change_and (C := Tryz.checked) (X := fun w _ => laidMetH Tryz.prog Rows.messageWriteRow.laid w) (fun _ _ _ hh h => h.of_heap hh) own started (by kernel_rfl) Tryz.func4
  (ChangeSpec.witness_shaped (enc := enc) (C := Tryz.checked) (os := os) (X := fun w _ => laidMetH Tryz.prog Rows.messageWriteRow.laid w) false (World.laidAll Tryz.prog os Rows.messageWriteRow.laid) #[.agg #[.int .i64 0, .bool false, str [], .int .i64 0, .int .i64 0, .slice none 0 0], .slice none 0 0] 8 (World.laidAll_os _ _ _)
   (World.shaped_of_ZipB (by kernel_rfl) (by kernel_rfl)) (by kernel_rfl) (by kernel_rfl) (by kernel_rfl)
   (by rw [MakeChecks.laidMetH_plain _ _ _ (by kernel_rfl)]; exact laidMet_laidAll _ (by kernel_rfl) (by kernel_rfl))) ?_
 intro W base args ds gs before hval hW _ hwt _ _
 exact contract H enc W base args ds gs before hval hW hwt
theorem holds : Rows.MessageWriteSaid :=
 OpenClaim.holds_of_wide 4 Tryz.f4 rfl rfl rfl rfl rfl rfl rfl ⟨rfl, rfl, rfl, rfl, rfl⟩ rfl rfl rfl rfl rfl (by kernel_rfl) Tryz.func4 (by kernel_rfl)
  (of_decide_eq_true (by kernel_rfl)) (by unfold Func.isWrapper; first | (rw [if_pos (by decide +kernel)]; kernel_rfl) | (rw [if_neg (by decide +kernel)]; exact ⟨rfl, rfl⟩))
  (fun os started H enc _ => lifted os started H enc)
theorem proved : Rows.MessageWriteCardSaid :=
 Claim7.holds_tied_plain_at .later [] [.data, .pinned] true (true, "e06a57da351197e9e74d40619f674f7772f06c72df3218b2d87e40b5efe25e18") false
  holds (fun _ h => by cases h) (by kernel_rfl) (fun _ h => by cases h) messageWrite_row_tie rfl ⟨rfl, rfl⟩ (by kernel_rfl) rfl
  (fun f fn hf hfn => by
   obtain rfl : f = 4 := Option.some.inj ((show Tryz.prog.funcNamed "omnibus/omnibuslaw.MessageWrite" = some 4 by kernel_rfl).symm.trans hf) |>.symm
   obtain rfl : fn = Tryz.f4 := (Option.some.inj (Tryz.func4.symm.trans hfn)).symm
   exact ⟨by kernel_rfl, fun j t ht => by
    rw [Tryz.params4] at ht
    have hm : t ∈ [24, 28] := by simpa using Array.mem_of_getElem? ht
    have hall : ([24, 28].all fun u => !Tryz.prog.wantsStandIn u) = true := by kernel_rfl
    exact (show Tryz.prog.wantsStandIn t = false by simpa using List.all_eq_true.1 hall t hm)⟩)
  (by kernel_rfl)
end messageWriteLaw
end Go.Proofs.YtdndfbamhnchfaaGreatDoor
