/- The law 'WireSend' returns true for whatever can be read as its arguments; condition: the package-level variables that its row lists hold what the program's text lays (tied by the card); the arguments read behind the call as they did. -/
import Derived.Test.YtmbdcehmeiiaoaaGreatDoorCore
import Derived.Test.YtmbdcehmeiiaoaaGreatDoorK1
import Derived.Test.YtmbdcehmeiiaoaaGreatDoorK2
import Derived.Test.YtmbdcehmeiiaoaaGreatDoorK3
import Derived.Test.YtmbdcehmeiiaoaaGreatDoorK4
import Derived.Test.YtmbdcehmeiiaoaaGreatDoorK5
import Derived.Test.YtmbdcehmeiiaoaaGreatDoorTie
import Derived.Test.YtmbdcehmeiiaoaaGreatDoorCards
import Derived.Lay
import Derived.LaidMore
import Derived.SevenTiedAt
import Derived.Stop.LaidErr
set_option linter.unusedVariables false
set_option linter.unusedSimpArgs false
namespace Go.Proofs.YtmbdcehmeiiaoaaGreatDoor
namespace wireSendLaw
open Go.Sy Go.RowKit Go.ChangeShapes Go.WideShapes Go.ChangeAt
theorem own : ownKnob Tryz.prog.godebug = none := by kernel_rfl
theorem laidOut : laidOutB Tryz.prog = true := by kernel_rfl
set_option maxRecDepth 100000 in
theorem contract (H : Type) (enc : TypeId × Value → H) (W : World) (base : Nat) (args : Array Value) (ds gs : List (DataW H)) (before : List MemPlace)
    (hval : ∀ (j : Nat) t v, Tryz.f6.params[j]? = some t → args[j]? = some v → Value.okWide Tryz.prog W .any base t v)
    (hW : DataW.Whole enc Tryz.prog Tryz.f6.params.toList Rows.wireSendSpec.vars false W args.toList ds gs before) (hX : laidMetH Tryz.prog Rows.wireSendRow.laid W) (hwt0 : (DataW.weightsEach Tryz.prog (Tryz.f6.params.toList ++ Rows.wireSendSpec.plain.varTypes Tryz.prog) (ds ++ gs)).all (· ≤ reachBytes) = true) :
    Calls Tryz.prog 6 args W fun e W' => ∃ v, e = .returned v ∧ Rows.wireSendSpec.post enc Tryz.prog Tryz.f6 false true false false W args v W' := by
  have l := hW
  obtain ⟨p, q, s, hV, rfl, hfz, hnd⟩ := hW
  have hA : DataW.TrodAll enc Tryz.prog W 0 (fun _ => true) true Tryz.f6.params.toList args.toList ds p := s
  have hlt : ∀ x ∈ p ++ q, x.block < W.heap.size := fun x hx => by simpa using l.lt x hx
  obtain ⟨rfl, rfl⟩ := trodVars_none hV
  have hwt : ∀ n ∈ DataW.weightsEach Tryz.prog Tryz.f6.params.toList ds, n ≤ reachBytes := fun n hn => by
    have u : Tryz.f6.params.toList ++ Rows.wireSendSpec.plain.varTypes Tryz.prog = Tryz.f6.params.toList := List.append_nil _
    rw [u, List.append_nil] at hwt0
    simpa using List.all_eq_true.1 hwt0 n hn
  rw [Tryz.params6] at hA hval hwt
  obtain ⟨a, M, N, O, w, Q, hargs, rfl, rfl, m, y⟩ := trodAll_cons hA
  obtain ⟨rfl, rfl, rfl⟩ := trodAll_nil y
  obtain rfl : args = #[a] := by cases args; simp_all
  have z := m
  obtain ⟨A, o⟩ := m
  have B := hval 0 42 a rfl rfl
  have C := arg_nonagg (by kernel_rfl) B
  rw [C] at o
  obtain ⟨b, D, E⟩ := (rd_slice (P := Tryz.prog) (t := 42) (e := 24) (bytes := 48) (by kernel_rfl) rdFrame).read enc W A _ _ o (fun n hn => hwt n (mem_weightsEach (i := 0) rfl rfl n hn))
  obtain ⟨c, d, F, G⟩ := D
  obtain rfl : a = .slice c b.length d := by have f : [a] = [.slice c b.length d] := F; simpa using f
  have I : laidMet Tryz.prog Rows.wireSendRow.laid W := by rw [← MakeChecks.laidMetH_plain _ _ _ (by kernel_rfl)]; exact hX
  have J := laidMet.tail I
  have L := gl_of (g := 5) (Lib.tabIs_of_head (P := Tryz.prog) (W := W) (name := "math/bits.deBruijn64tab") (k := .u8) (zs := deBruijn64) (g := 5) (t := 185) (e := 5) (n := 64) (by kernel_rfl) (by kernel_rfl) (by kernel_rfl) (by kernel_rfl) (by kernel_rfl) (by kernel_rfl) J) (by kernel_rfl) (by decide)
  refine (LSend_walk b c d (Zw W) W G L (Zw_on W) (K := fun r => r = true) (LSend_ok b E)).mono fun e W1 h => ?_
  obtain ⟨r, rfl, hr, hb⟩ := h
  subst hr
  refine ⟨_, rfl, _, [], _, [], (w ++ []), [], l, trodAll_mk1 (shut_bool (by kernel_rfl) _), ?_, rfl, hb.frame _, fun h => by cases h⟩
  rw [Tryz.params6]
  exact (trodAll_cons_mk (Below.trod laidOut (by kernel_rfl) (of_decide_eq_true (by kernel_rfl)) z hb (fun x hx => hlt x (by simp [hx]))) trodAll_mk0)
set_option maxRecDepth 100000 in
theorem lifted (os : Os) (started : os.Started) (H : Type) (enc : TypeId × Value → H) :
    ReturnsInHanded {} Tryz.checked os 6 .any (fun w args => (Rows.wireSendSpec.pre enc Tryz.prog Tryz.f6 [] false w args ∧ laidMetH Tryz.prog Rows.wireSendRow.laid w) ∧ sizedMet enc Tryz.prog Tryz.f6 (OpenSpec.ofChange Rows.wireSendSpec) false w args) (Rows.wireSendSpec.post enc Tryz.prog Tryz.f6 false true false false) := by
  refine returnsInHanded_of_change_and (C := Tryz.checked) (X := fun w _ => laidMetH Tryz.prog Rows.wireSendRow.laid w) (fun _ _ _ hh h => h.of_heap hh) own started (by kernel_rfl) Tryz.func6
    (ChangeSpec.witness_shaped (enc := enc) (C := Tryz.checked) (os := os) (X := fun w _ => laidMetH Tryz.prog Rows.wireSendRow.laid w) false (World.laidAll Tryz.prog os Rows.wireSendRow.laid) #[.slice none 0 0] 8 (World.laidAll_os _ _ _)
      (World.shaped_of_ZipB (by kernel_rfl) (by kernel_rfl)) (by kernel_rfl) (by kernel_rfl) (by kernel_rfl)
      (by rw [MakeChecks.laidMetH_plain _ _ _ (by kernel_rfl)]; exact laidMet_laidAll _ (by kernel_rfl) (by kernel_rfl))) ?_
  intro W base args ds gs before hval hW a hwt b c
  exact contract H enc W base args ds gs before hval hW (by first | exact a | exact b | exact c | exact a.2 | exact b.2 | exact c.2 | exact a.1 | exact b.1 | exact c.1) hwt
theorem holds : Rows.WireSendSaid :=
  OpenClaim.holds_of_wide 6 Tryz.f6 rfl rfl rfl rfl rfl rfl rfl ⟨rfl, rfl, rfl, rfl, rfl⟩ rfl rfl rfl rfl rfl (by kernel_rfl) Tryz.func6 (by kernel_rfl)
    (of_decide_eq_true (by kernel_rfl)) (by unfold Func.isWrapper; first | (rw [if_pos (by decide +kernel)]; kernel_rfl) | (rw [if_neg (by decide +kernel)]; exact ⟨rfl, rfl⟩))
    (fun os started H enc _ => lifted os started H enc)
theorem proved : Rows.WireSendCardSaid :=
  Claim7.holds_tied_plain_at .later [] [.data, .data, .data, .data, .pinned] true (true, "3a9c5ad691785884110641622b2ebe6371007423d0f0327a112f8594ba140d9e") false
    holds (fun _ h => by cases h) (by kernel_rfl) (fun _ h => by cases h) wireSend_row_tie rfl ⟨rfl, rfl⟩ (by kernel_rfl) rfl
    (fun f fn hf hfn => by
      obtain rfl : f = 6 := Option.some.inj ((show Tryz.prog.funcNamed "omnibus/omnibuslaw.WireSend" = some 6 by kernel_rfl).symm.trans hf) |>.symm
      obtain rfl : fn = Tryz.f6 := (Option.some.inj (Tryz.func6.symm.trans hfn)).symm
      exact ⟨by kernel_rfl, fun j t ht => by
        rw [Tryz.params6] at ht
        have hm : t ∈ [42] := by simpa using Array.mem_of_getElem? ht
        have hall : ([42].all fun u => !Tryz.prog.wantsStandIn u) = true := by kernel_rfl
        exact (show Tryz.prog.wantsStandIn t = false by simpa using List.all_eq_true.1 hall t hm)⟩)
    (by kernel_rfl)
end wireSendLaw

end Go.Proofs.YtmbdcehmeiiaoaaGreatDoor
