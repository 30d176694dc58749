/- The law 'QueuePut' returns true for whatever can be read as its arguments; condition: the package-level variables that its row lists hold what the program's text lays (tied by the card); the arguments read behind the call as they did. -/
import Derived.Test.YtocpdhcjkfmmnaaDoorKp0
import Derived.Test.YtocpdhcjkfmmnaaDoorKp1
import Derived.Test.YtocpdhcjkfmmnaaDoorKp2
import Derived.Test.YtocpdhcjkfmmnaaDoorKp3
import Derived.Test.YtocpdhcjkfmmnaaDoorTie
import Derived.Test.YtocpdhcjkfmmnaaDoorCards
import Derived.Lay
import Derived.LaidMore
import Derived.SevenTiedAt
import Derived.Stop.LaidErr
set_option linter.unusedVariables false
set_option linter.unusedSimpArgs false
namespace Go.Proofs.YtocpdhcjkfmmnaaDoor
namespace queuePutLaw
open Go.Sy Go.RowKit Go.ChangeShapes Go.WideShapes Go.ChangeAt
theorem own : ownKnob Tryd.prog.godebug = none := by kernel_rfl
theorem laidOut : laidOutB Tryd.prog = true := by kernel_rfl
set_option maxRecDepth 100000 in
theorem contract (H : Type) (enc : TypeId × Value → H) (W : World) (base : Nat) (args : Array Value) (ds gs : List (DataW H)) (before : List MemPlace)
    (hval : ∀ (j : Nat) t v, Tryd.f4.params[j]? = some t → args[j]? = some v → Value.okWide Tryd.prog W .any base t v)
    (hW : DataW.Whole enc Tryd.prog Tryd.f4.params.toList Rows.queuePutSpec.vars false W args.toList ds gs before) (hX : laidMetH Tryd.prog Rows.queuePutRow.laid W) (hwt0 : (DataW.weightsEach Tryd.prog (Tryd.f4.params.toList ++ Rows.queuePutSpec.plain.varTypes Tryd.prog) (ds ++ gs)).all (· ≤ reachBytes) = true) :
    Calls Tryd.prog 4 args W fun e W' => ∃ v, e = .returned v ∧ Rows.queuePutSpec.post enc Tryd.prog Tryd.f4 false true false false W args v W' := by
  have hW1 := hW
  obtain ⟨p, q, hA0, hV, rfl, hfz, hnd⟩ := hW
  have hA : DataW.TrodAll enc Tryd.prog W 0 (fun _ => true) true Tryd.f4.params.toList args.toList ds p := hA0
  have hlt : ∀ x ∈ p ++ q, x.block < W.heap.size := fun x hx => by simpa using hW1.lt x hx
  obtain ⟨rfl, rfl⟩ := trodVars_none hV
  have hwt : ∀ n ∈ DataW.weightsEach Tryd.prog Tryd.f4.params.toList ds, n ≤ reachBytes := fun n hn => by
    have e1 : Tryd.f4.params.toList ++ Rows.queuePutSpec.plain.varTypes Tryd.prog = Tryd.f4.params.toList := List.append_nil _
    rw [e1, List.append_nil] at hwt0
    simpa using List.all_eq_true.1 hwt0 n hn
  rw [Tryd.params4] at hA hval hwt
  obtain ⟨v0, vs0, d0, ds0, p0, r0, hargs, rfl, rfl, h0, hA1⟩ := trodAll_cons hA
  obtain ⟨v1, vs1, d1, ds1, p1, r1, rfl, rfl, rfl, h1, hA2⟩ := trodAll_cons hA1
  obtain ⟨rfl, rfl, rfl⟩ := trodAll_nil hA2
  obtain rfl : args = #[v0, v1] := by cases args; simp_all
  have hk0 := h0
  obtain ⟨fu0, t0⟩ := h0
  have hv0 := hval 0 22 v0 rfl rfl
  have hc0 := arg_nonagg (by kernel_rfl) hv0
  rw [hc0] at t0
  obtain ⟨q0, e0, k0⟩ := (rd_slice (P := Tryd.prog) (t := 22) (e := 30) (bytes := 48) (by kernel_rfl) rdFrame).read enc W fu0 _ _ t0 (fun n hn => hwt n (mem_weightsEach (i := 0) rfl rfl n hn))
  obtain ⟨ao0a, cap0a, f0, s0a⟩ := e0
  obtain rfl : v0 = .slice ao0a q0.length cap0a := by have f : [v0] = [.slice ao0a q0.length cap0a] := f0; simpa using f
  have hk1 := h1
  obtain ⟨fu1, t1⟩ := h1
  have hv1 := hval 1 30 v1 rfl rfl
  obtain ⟨c1, rfl, hc1⟩ := arg_agg (k := 6) (by kernel_rfl) hv1
  rw [hc1] at t1
  obtain ⟨q1, e1, k1⟩ := rdFrame.read enc W fu1 _ _ t1 (fun n hn => hwt n (mem_weightsEach (i := 1) rfl rfl n hn))
  obtain ⟨ao1a, cap1a, f1, s1a⟩ := e1
  obtain rfl : c1 = [.int .i64 q1.ID, .bool q1.Long, .bool q1.Fast, .bool q1.Remote, .int .i64 q1.Size, .slice ao1a q1.Data.length cap1a] := f1
  have hX3 : laidMet Tryd.prog Rows.queuePutRow.laid W := by rw [← MakeChecks.laidMetH_plain _ _ _ (by kernel_rfl)]; exact hX
  have hX3_0 := laidMet.tail hX3
  have hg3 := gl_of (g := 3) (Lib.tabIs_of_head (P := Tryd.prog) (W := W) (name := "math/bits.deBruijn64tab") (k := .u8) (zs := deBruijn64) (g := 3) (t := 112) (e := 5) (n := 64) (by kernel_rfl) (by kernel_rfl) (by kernel_rfl) (by kernel_rfl) (by kernel_rfl) (by kernel_rfl) hX3_0) (by kernel_rfl) (by decide)
  refine (LPut_walk q0 q1 ao0a cap0a ao1a cap1a (Zw W) W s0a s1a hg3 (Zw_on W) (K := fun r => r = true) (LPut_ok2 q0 q1 k0 k1)).mono fun e W1 h => ?_
  obtain ⟨r, rfl, hr, hb⟩ := h
  subst hr
  refine ⟨_, rfl, _, [], _, [], (p0 ++ (p1 ++ [])), [], hW1, trodAll_mk1 (shut_bool (by kernel_rfl) _), ?_, rfl, hb.frame _, fun h => by cases h⟩
  rw [Tryd.params4]
  exact (trodAll_cons_mk (Below.trod laidOut (by kernel_rfl) (of_decide_eq_true (by kernel_rfl)) hk0 hb (fun x hx => hlt x (by simp [hx]))) (trodAll_cons_mk (Below.trod laidOut (by kernel_rfl) (of_decide_eq_true (by kernel_rfl)) hk1 hb (fun x hx => hlt x (by simp [hx]))) trodAll_mk0))
set_option maxRecDepth 100000 in
theorem lifted (os : Os) (started : os.Started) (H : Type) (enc : TypeId × Value → H) :
    ReturnsInHanded {} Tryd.checked os 4 .any (fun w args => (Rows.queuePutSpec.pre enc Tryd.prog Tryd.f4 [] false w args ∧ laidMetH Tryd.prog Rows.queuePutRow.laid w) ∧ sizedMet enc Tryd.prog Tryd.f4 (OpenSpec.ofChange Rows.queuePutSpec) false w args) (Rows.queuePutSpec.post enc Tryd.prog Tryd.f4 false true false false) := by
  refine returnsInHanded_of_change_and (C := Tryd.checked) (X := fun w _ => laidMetH Tryd.prog Rows.queuePutRow.laid w) (fun _ _ _ hh h => h.of_heap hh) own started (by kernel_rfl) Tryd.func4
    (ChangeSpec.witness_shaped (enc := enc) (C := Tryd.checked) (os := os) (X := fun w _ => laidMetH Tryd.prog Rows.queuePutRow.laid w) false (World.laidAll Tryd.prog os Rows.queuePutRow.laid) #[.slice none 0 0, .agg #[.int .i64 0, .bool false, .bool false, .bool false, .int .i64 0, .slice none 0 0]] 8 (World.laidAll_os _ _ _)
      (World.shaped_of_ZipB (by kernel_rfl) (by kernel_rfl)) (by kernel_rfl) (by kernel_rfl) (by kernel_rfl)
      (by rw [MakeChecks.laidMetH_plain _ _ _ (by kernel_rfl)]; exact laidMet_laidAll _ (by kernel_rfl) (by kernel_rfl))) ?_
  intro W base args ds gs before hval hW x1 hwt x2 x3
  exact contract H enc W base args ds gs before hval hW (by first | exact x1 | exact x2 | exact x3 | exact x1.2 | exact x2.2 | exact x3.2 | exact x1.1 | exact x2.1 | exact x3.1) hwt
theorem holds : Rows.QueuePutSaid :=
  OpenClaim.holds_of_wide 4 Tryd.f4 rfl rfl rfl rfl rfl rfl rfl ⟨rfl, rfl, rfl, rfl, rfl⟩ rfl rfl rfl rfl rfl (by kernel_rfl) Tryd.func4 (by kernel_rfl)
    (of_decide_eq_true (by kernel_rfl)) (by unfold Func.isWrapper; first | (rw [if_pos (by decide +kernel)]; kernel_rfl) | (rw [if_neg (by decide +kernel)]; exact ⟨rfl, rfl⟩))
    (fun os started H enc _ => lifted os started H enc)
theorem proved : Rows.QueuePutCardSaid :=
  Claim7.holds_tied_plain_at .later [] [.data, .data, .data] true (true, "c4526ad80e37499794a1e3a5d55ed0b5ec27ea86fdd27c9de7ae0a86a74f079d") false
    holds (fun _ h => by cases h) (by kernel_rfl) (fun _ h => by cases h) queuePut_row_tie rfl ⟨rfl, rfl⟩ (by kernel_rfl) rfl
    (fun f fn hf hfn => by
      obtain rfl : f = 4 := Option.some.inj ((show Tryd.prog.funcNamed "omnibus/omnibuslaw.QueuePut" = some 4 by kernel_rfl).symm.trans hf) |>.symm
      obtain rfl : fn = Tryd.f4 := (Option.some.inj (Tryd.func4.symm.trans hfn)).symm
      exact ⟨by kernel_rfl, fun j t ht => by
        rw [Tryd.params4] at ht
        have hm : t ∈ [22, 30] := by simpa using Array.mem_of_getElem? ht
        have hall : ([22, 30].all fun u => !Tryd.prog.wantsStandIn u) = true := by kernel_rfl
        exact (show Tryd.prog.wantsStandIn t = false by simpa using List.all_eq_true.1 hall t hm)⟩)
    (by kernel_rfl)
end queuePutLaw

end Go.Proofs.YtocpdhcjkfmmnaaDoor
