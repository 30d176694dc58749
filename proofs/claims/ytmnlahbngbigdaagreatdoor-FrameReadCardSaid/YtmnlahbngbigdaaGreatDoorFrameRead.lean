/- The law 'FrameRead' returns true for whatever can be read as its arguments; condition: the package-level variables that its row lists hold what the program's text lays (tied by the card); the arguments read behind the call as they did. -/
import Derived.Test.YtmnlahbngbigdaaGreatDoorKf0
import Derived.Test.YtmnlahbngbigdaaGreatDoorKf1
import Derived.Test.YtmnlahbngbigdaaGreatDoorKf2
import Derived.Test.YtmnlahbngbigdaaGreatDoorKf3
import Derived.Test.YtmnlahbngbigdaaGreatDoorKf4
import Derived.Test.YtmnlahbngbigdaaGreatDoorKf5
import Derived.Test.YtmnlahbngbigdaaGreatDoorTie
import Derived.Test.YtmnlahbngbigdaaGreatDoorCards
import Derived.Lay
import Derived.LaidMore
import Derived.SevenTiedAt
import Derived.Stop.LaidErr
set_option linter.unusedVariables false
set_option linter.unusedSimpArgs false
namespace Go.Proofs.YtmnlahbngbigdaaGreatDoor
namespace frameReadLaw
open Go.Sy Go.RowKit Go.ChangeShapes Go.WideShapes Go.ChangeAt
theorem own : ownKnob Tryz.prog.godebug = none := by kernel_rfl
theorem laidOut : laidOutB Tryz.prog = true := by kernel_rfl
set_option maxRecDepth 100000 in
theorem contract (H : Type) (enc : TypeId × Value → H) (W : World) (base : Nat) (args : Array Value) (ds gs : List (DataW H)) (before : List MemPlace)
    (hval : ∀ (j : Nat) t v, Tryz.f3.params[j]? = some t → args[j]? = some v → Value.okWide Tryz.prog W .any base t v)
    (hW : DataW.Whole enc Tryz.prog Tryz.f3.params.toList Rows.frameReadSpec.vars false W args.toList ds gs before) (hX : laidMetH Tryz.prog Rows.frameReadRow.laid W) (hwt0 : (DataW.weightsEach Tryz.prog (Tryz.f3.params.toList ++ Rows.frameReadSpec.plain.varTypes Tryz.prog) (ds ++ gs)).all (· ≤ reachBytes) = true) :
    Calls Tryz.prog 3 args W fun e W' => ∃ v, e = .returned v ∧ Rows.frameReadSpec.post enc Tryz.prog Tryz.f3 false true false false W args v W' := by
  have hW1 := hW
  obtain ⟨p, q, hA0, hV, rfl, hfz, hnd⟩ := hW
  have hA : DataW.TrodAll enc Tryz.prog W 0 (fun _ => true) true Tryz.f3.params.toList args.toList ds p := hA0
  have hlt : ∀ x ∈ p ++ q, x.block < W.heap.size := fun x hx => by simpa using hW1.lt x hx
  obtain ⟨rfl, rfl⟩ := trodVars_none hV
  have hwt : ∀ n ∈ DataW.weightsEach Tryz.prog Tryz.f3.params.toList ds, n ≤ reachBytes := fun n hn => by
    have e1 : Tryz.f3.params.toList ++ Rows.frameReadSpec.plain.varTypes Tryz.prog = Tryz.f3.params.toList := List.append_nil _
    rw [e1, List.append_nil] at hwt0
    simpa using List.all_eq_true.1 hwt0 n hn
  rw [Tryz.params3] at hA hval hwt
  obtain ⟨v0, vs0, d0, ds0, p0, r0, hargs, rfl, rfl, h0, hA1⟩ := trodAll_cons hA
  obtain ⟨rfl, rfl, rfl⟩ := trodAll_nil hA1
  obtain rfl : args = #[v0] := by cases args; simp_all
  have hk0 := h0
  obtain ⟨fu0, t0⟩ := h0
  have hv0 := hval 0 9 v0 rfl rfl
  have hc0 := arg_nonagg (by kernel_rfl) hv0
  rw [hc0] at t0
  obtain ⟨q0, e0, k0⟩ := (rd_str (P := Tryz.prog) (t := 9) (by kernel_rfl)).read enc W fu0 _ _ t0 (fun n hn => hwt n (mem_weightsEach (i := 0) rfl rfl n hn))
  have f0 := e0
  obtain rfl : v0 = str q0 := by have f : [v0] = [str q0] := f0; simpa using f
  have hX5 : laidMet Tryz.prog Rows.frameReadRow.laid W := by rw [← MakeChecks.laidMetH_plain _ _ _ (by kernel_rfl)]; exact hX
  have hX5_0 := laidMet.tail hX5
  have hg5 := gl_of (g := 5) (Lib.tabIs_of_head (P := Tryz.prog) (W := W) (name := "math/bits.deBruijn64tab") (k := .u8) (zs := deBruijn64) (g := 5) (t := 177) (e := 5) (n := 64) (by kernel_rfl) (by kernel_rfl) (by kernel_rfl) (by kernel_rfl) (by kernel_rfl) (by kernel_rfl) hX5_0) (by kernel_rfl) (by decide)
  refine (LRead_walk q0 (Zw W) W hg5 (Zw_on W) (K := fun r => r = true) (LRead_ok q0 k0)).mono fun e W1 h => ?_
  obtain ⟨r, rfl, hr, hb⟩ := h
  subst hr
  refine ⟨_, rfl, _, [], _, [], (p0 ++ []), [], hW1, trodAll_mk1 (shut_bool (by kernel_rfl) _), ?_, rfl, hb.frame _, fun h => by cases h⟩
  rw [Tryz.params3]
  exact (trodAll_cons_mk (Below.trod laidOut (by kernel_rfl) (of_decide_eq_true (by kernel_rfl)) hk0 hb (fun x hx => hlt x (by simp [hx]))) trodAll_mk0)
set_option maxRecDepth 100000 in
theorem lifted (os : Os) (started : os.Started) (H : Type) (enc : TypeId × Value → H) :
    ReturnsInHanded {} Tryz.checked os 3 .any (fun w args => (Rows.frameReadSpec.pre enc Tryz.prog Tryz.f3 [] false w args ∧ laidMetH Tryz.prog Rows.frameReadRow.laid w) ∧ sizedMet enc Tryz.prog Tryz.f3 (OpenSpec.ofChange Rows.frameReadSpec) false w args) (Rows.frameReadSpec.post enc Tryz.prog Tryz.f3 false true false false) := by
  refine returnsInHanded_of_change_and (C := Tryz.checked) (X := fun w _ => laidMetH Tryz.prog Rows.frameReadRow.laid w) (fun _ _ _ hh h => h.of_heap hh) own started (by kernel_rfl) Tryz.func3
    (ChangeSpec.witness_shaped (enc := enc) (C := Tryz.checked) (os := os) (X := fun w _ => laidMetH Tryz.prog Rows.frameReadRow.laid w) false (World.laidAll Tryz.prog os Rows.frameReadRow.laid) #[str []] 8 (World.laidAll_os _ _ _)
      (World.shaped_of_ZipB (by kernel_rfl) (by kernel_rfl)) (by kernel_rfl) (by kernel_rfl) (by kernel_rfl)
      (by rw [MakeChecks.laidMetH_plain _ _ _ (by kernel_rfl)]; exact laidMet_laidAll _ (by kernel_rfl) (by kernel_rfl))) ?_
  intro W base args ds gs before hval hW x1 hwt x2 x3
  exact contract H enc W base args ds gs before hval hW (by first | exact x1 | exact x2 | exact x3 | exact x1.2 | exact x2.2 | exact x3.2 | exact x1.1 | exact x2.1 | exact x3.1) hwt
theorem holds : Rows.FrameReadSaid :=
  OpenClaim.holds_of_wide 3 Tryz.f3 rfl rfl rfl rfl rfl rfl rfl ⟨rfl, rfl, rfl, rfl, rfl⟩ rfl rfl rfl rfl rfl (by kernel_rfl) Tryz.func3 (by kernel_rfl)
    (of_decide_eq_true (by kernel_rfl)) (by unfold Func.isWrapper; first | (rw [if_pos (by decide +kernel)]; kernel_rfl) | (rw [if_neg (by decide +kernel)]; exact ⟨rfl, rfl⟩))
    (fun os started H enc _ => lifted os started H enc)
theorem proved : Rows.FrameReadCardSaid :=
  Claim7.holds_tied_plain_at .later [] [.data, .data, .data, .data, .pinned] true (true, "d50a240343e55370e6a57404e6526ee85ff26f0b4032c06971107f6702c2666c") false
    holds (fun _ h => by cases h) (by kernel_rfl) (fun _ h => by cases h) frameRead_row_tie rfl ⟨rfl, rfl⟩ (by kernel_rfl) rfl
    (fun f fn hf hfn => by
      obtain rfl : f = 3 := Option.some.inj ((show Tryz.prog.funcNamed "omnibus/omnibuslaw.FrameRead" = some 3 by kernel_rfl).symm.trans hf) |>.symm
      obtain rfl : fn = Tryz.f3 := (Option.some.inj (Tryz.func3.symm.trans hfn)).symm
      exact ⟨by kernel_rfl, fun j t ht => by
        rw [Tryz.params3] at ht
        have hm : t ∈ [9] := by simpa using Array.mem_of_getElem? ht
        have hall : ([9].all fun u => !Tryz.prog.wantsStandIn u) = true := by kernel_rfl
        exact (show Tryz.prog.wantsStandIn t = false by simpa using List.all_eq_true.1 hall t hm)⟩)
    (by kernel_rfl)
end frameReadLaw

end Go.Proofs.YtmnlahbngbigdaaGreatDoor
