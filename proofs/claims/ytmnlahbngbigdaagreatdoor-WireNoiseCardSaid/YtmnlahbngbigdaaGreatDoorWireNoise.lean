/- The law 'WireNoise' returns true for whatever can be read as its arguments; condition: the package-level variables that its row lists hold what the program's text lays (tied by the card); the arguments read behind the call as they did. -/
import Derived.Test.YtmnlahbngbigdaaGreatDoorK0
import Derived.Test.YtmnlahbngbigdaaGreatDoorK1
import Derived.Test.YtmnlahbngbigdaaGreatDoorK2
import Derived.Test.YtmnlahbngbigdaaGreatDoorK3
import Derived.Test.YtmnlahbngbigdaaGreatDoorK4
import Derived.Test.YtmnlahbngbigdaaGreatDoorK5
import Derived.Test.YtmnlahbngbigdaaGreatDoorK6
import Derived.Test.YtmnlahbngbigdaaGreatDoorTie
import Derived.Test.YtmnlahbngbigdaaGreatDoorCards
import Derived.Lay
import Derived.LaidMore
import Derived.SevenTiedAt
import Derived.Stop.LaidErr
set_option linter.unusedVariables false
set_option linter.unusedSimpArgs false
namespace Go.Proofs.YtmnlahbngbigdaaGreatDoor
namespace wireNoiseLaw
open Go.Sy Go.RowKit Go.ChangeShapes Go.WideShapes Go.ChangeAt
theorem own : ownKnob Tryz.prog.godebug = none := by kernel_rfl
theorem laidOut : laidOutB Tryz.prog = true := by kernel_rfl
set_option maxRecDepth 100000 in
theorem contract (H : Type) (enc : TypeId × Value → H) (W : World) (base : Nat) (args : Array Value) (ds gs : List (DataW H)) (before : List MemPlace) (hval : ∀ (j : Nat) t v, Tryz.f4.params[j]? = some t → args[j]? = some v → Value.okWide Tryz.prog W .any base t v) (hW : DataW.Whole enc Tryz.prog Tryz.f4.params.toList Rows.wireNoiseSpec.vars false W args.toList ds gs before) (hX : laidMetH Tryz.prog Rows.wireNoiseRow.laid W) (hwt0 : (DataW.weightsEach Tryz.prog (Tryz.f4.params.toList ++ Rows.wireNoiseSpec.plain.varTypes Tryz.prog) (ds ++ gs)).all (· ≤ reachBytes) = true) : Calls Tryz.prog 4 args W fun e W' => ∃ v, e = .returned v ∧ Rows.wireNoiseSpec.post enc Tryz.prog Tryz.f4 false true false false W args v W' := by
 have o := hW
 obtain ⟨p, q, C, hV, rfl, hfz, hnd⟩ := hW
 have hA : DataW.TrodAll enc Tryz.prog W 0 (fun _ => true) true Tryz.f4.params.toList args.toList ds p := C
 have hlt : ∀ x ∈ p ++ q, x.block < W.heap.size := fun x hx => by simpa using o.lt x hx
 obtain ⟨rfl, rfl⟩ := trodVars_none hV
 have hwt : ∀ n ∈ DataW.weightsEach Tryz.prog Tryz.f4.params.toList ds, n ≤ reachBytes := fun n hn => by
  have d : Tryz.f4.params.toList ++ Rows.wireNoiseSpec.plain.varTypes Tryz.prog = Tryz.f4.params.toList := List.append_nil _
  rw [d, List.append_nil] at hwt0
  simpa using List.all_eq_true.1 hwt0 n hn
 rw [Tryz.params4] at hA hval hwt
 obtain ⟨s, ae, d0, af, D, r0, hargs, rfl, rfl, u, E⟩ := trodAll_cons hA
 obtain ⟨b, ag, d1, ah, F, r1, rfl, rfl, rfl, w, G⟩ := trodAll_cons E
 obtain ⟨rfl, rfl, rfl⟩ := trodAll_nil G
 obtain rfl : args = #[s, b] := by cases args; simp_all
 have I := u
 obtain ⟨J, y⟩ := u
 have L := hval 0 24 s rfl rfl
 obtain ⟨M, rfl, N⟩ := arg_agg (k := 6) (by kernel_rfl) L
 rw [N] at y
 obtain ⟨a, O, Q⟩ := rdFrame.read enc W J _ _ y (fun n hn => hwt n (mem_weightsEach (i := 0) rfl rfl n hn))
 obtain ⟨z, A, R, S⟩ := O
 obtain rfl : M = [i6 a.ID, .bool a.Long, .bool a.Fast, .bool a.Remote, i6 a.Size, .slice z a.Data.length A] := R
 have T := w
 obtain ⟨U, B⟩ := w
 have V := hval 1 33 b rfl rfl
 have X := arg_nonagg (by kernel_rfl) V
 rw [X] at B
 obtain ⟨c, d, Y⟩ := (rd_slice (P := Tryz.prog) (t := 33) (e := 3) (bytes := 8) (by kernel_rfl) (rd_int (P := Tryz.prog) (t := 3) (k := .i64) (by kernel_rfl))).read enc W U _ _ B (fun n hn => hwt n (mem_weightsEach (i := 1) rfl rfl n hn))
 obtain ⟨l, m, Z, aa⟩ := d
 obtain rfl : b = .slice l c.length m := by have f : [b] = [.slice l c.length m] := Z; simpa using f
 have ab : laidMet Tryz.prog Rows.wireNoiseRow.laid W := by rw [← MakeChecks.laidMetH_plain _ _ _ (by kernel_rfl)]; exact hX
 have ac := laidMet.tail ab
 have ad := gl_of (g := 5) (Lib.tabIs_of_head (P := Tryz.prog) (W := W) (name := "math/bits.deBruijn64tab") (k := .u8) (zs := deBruijn64) (g := 5) (t := 177) (e := 5) (n := 64) (by kernel_rfl) (by kernel_rfl) (by kernel_rfl) (by kernel_rfl) (by kernel_rfl) (by kernel_rfl) ac) (by kernel_rfl) (by decide)
 refine (LNoise_walk a c z A l m (Zw W) W S aa ad (Zw_on W) (K := fun r => r = true) (LNoise_ok a c Q Y)).mono fun e W1 h => ?_
 obtain ⟨r, rfl, hr, hb⟩ := h
 subst hr
 refine ⟨_, rfl, _, [], _, [], (D ++ (F ++ [])), [], o, trodAll_mk1 (shut_bool (by kernel_rfl) _), ?_, rfl, hb.frame _, fun h => by cases h⟩
 rw [Tryz.params4]
 exact (trodAll_cons_mk (Below.trod laidOut (by kernel_rfl) (of_decide_eq_true (by kernel_rfl)) I hb (fun x hx => hlt x (by simp [hx]))) (trodAll_cons_mk (Below.trod laidOut (by kernel_rfl) (of_decide_eq_true (by kernel_rfl)) T hb (fun x hx => hlt x (by simp [hx]))) trodAll_mk0))
set_option maxRecDepth 100000 in
theorem lifted (os : Os) (started : os.Started) (H : Type) (enc : TypeId × Value → H) : ReturnsInHanded {} Tryz.checked os 4 .any (fun w args => (Rows.wireNoiseSpec.pre enc Tryz.prog Tryz.f4 [] false w args ∧ laidMetH Tryz.prog Rows.wireNoiseRow.laid w) ∧ sizedMet enc Tryz.prog Tryz.f4 (OpenSpec.ofChange Rows.wireNoiseSpec) false w args) (Rows.wireNoiseSpec.post enc Tryz.prog Tryz.f4 false true false false) := by
 refine returnsInHanded_of_change_and (C := Tryz.checked) (X := fun w _ => laidMetH Tryz.prog Rows.wireNoiseRow.laid w) (fun _ _ _ hh h => h.of_heap hh) own started (by kernel_rfl) Tryz.func4
  (ChangeSpec.witness_shaped (enc := enc) (C := Tryz.checked) (os := os) (X := fun w _ => laidMetH Tryz.prog Rows.wireNoiseRow.laid w) false (World.laidAll Tryz.prog os Rows.wireNoiseRow.laid) #[.agg #[i6 0, .bool false, .bool false, .bool false, i6 0, .slice none 0 0], .slice none 0 0] 8 (World.laidAll_os _ _ _)
   (World.shaped_of_ZipB (by kernel_rfl) (by kernel_rfl)) (by kernel_rfl) (by kernel_rfl) (by kernel_rfl)
   (by rw [MakeChecks.laidMetH_plain _ _ _ (by kernel_rfl)]; exact laidMet_laidAll _ (by kernel_rfl) (by kernel_rfl))) ?_
 intro W base args ds gs before hval hW a hwt b c
 exact contract H enc W base args ds gs before hval hW (by first | exact a | exact b | exact c | exact a.2 | exact b.2 | exact c.2 | exact a.1 | exact b.1 | exact c.1) hwt
theorem holds : Rows.WireNoiseSaid :=
 OpenClaim.holds_of_wide 4 Tryz.f4 rfl rfl rfl rfl rfl rfl rfl ⟨rfl, rfl, rfl, rfl, rfl⟩ rfl rfl rfl rfl rfl (by kernel_rfl) Tryz.func4 (by kernel_rfl)
  (of_decide_eq_true (by kernel_rfl)) (by unfold Func.isWrapper; first | (rw [if_pos (by decide +kernel)]; kernel_rfl) | (rw [if_neg (by decide +kernel)]; exact ⟨rfl, rfl⟩))
  (fun os started H enc _ => lifted os started H enc)
theorem proved : Rows.WireNoiseCardSaid :=
 Claim7.holds_tied_plain_at .later [] [.data, .data, .data, .data, .pinned] true (true, "d50a240343e55370e6a57404e6526ee85ff26f0b4032c06971107f6702c2666c") false
  holds (fun _ h => by cases h) (by kernel_rfl) (fun _ h => by cases h) wireNoise_row_tie rfl ⟨rfl, rfl⟩ (by kernel_rfl) rfl
  (fun f fn hf hfn => by
   obtain rfl : f = 4 := Option.some.inj ((show Tryz.prog.funcNamed "omnibus/omnibuslaw.WireNoise" = some 4 by kernel_rfl).symm.trans hf) |>.symm
   obtain rfl : fn = Tryz.f4 := (Option.some.inj (Tryz.func4.symm.trans hfn)).symm
   exact ⟨by kernel_rfl, fun j t ht => by
    rw [Tryz.params4] at ht
    have hm : t ∈ [24, 33] := by simpa using Array.mem_of_getElem? ht
    have hall : ([24, 33].all fun u => !Tryz.prog.wantsStandIn u) = true := by kernel_rfl
    exact (show Tryz.prog.wantsStandIn t = false by simpa using List.all_eq_true.1 hall t hm)⟩)
  (by kernel_rfl)
end wireNoiseLaw
end Go.Proofs.YtmnlahbngbigdaaGreatDoor
