/- The law 'FilterBoth' returns true for whatever can be read as its arguments; no condition; the arguments read behind the call as they did. -/
import Derived.Test.YtkogkombalcgeaaWI
import Derived.JoinedCond
import Derived.Deep.CondSized
set_option linter.unusedVariables false
set_option linter.unusedSimpArgs false
namespace Go.Proofs.Ytkogkombalcgeaa
namespace filterBothLaw
open Go.Sy Go.RowKit Go.ChangeShapes Go.WideShapes Go.ChangeAt
theorem bulk_one {H : Type} (d : DataW H) : 1 ≤ Rows.uptoBulk d := by
  cases d with
  | lit l => cases l <;> simp [Rows.uptoBulk]
  | _ => simp [Rows.uptoBulk]
theorem bulk_part {H : Type} {d : DataW H} {l : List (DataW H)} (h : d ∈ l) : Rows.uptoBulk d ≤ Rows.uptoBulkAll l := by
  induction l with
  | nil => cases h
  | cons x r ih =>
    simp only [Rows.uptoBulkAll]
    rcases List.mem_cons.1 h with rfl | e
    · omega
    · have := ih e; omega
theorem bulk_len {H : Type} (l : List (DataW H)) : l.length ≤ Rows.uptoBulkAll l := by
  induction l with
  | nil => simp [Rows.uptoBulkAll]
  | cons x r ih => have := bulk_one x; simp only [Rows.uptoBulkAll, List.length_cons]; omega
theorem bulk_slice {H : Type} (elems spare : List (DataW H)) : elems.length ≤ Rows.uptoBulk (.slice elems spare) := by
  have h1 := bulk_len elems
  simp only [Rows.uptoBulk]
  omega
theorem bulk_bound {H : Type} {l : List (DataW H)} (hk : Rows.uptoSmall H l = true) : Rows.uptoBulkAll l ≤ 1048576 := of_decide_eq_true hk
theorem own : ownKnob Try.prog.godebug = none := by kernel_rfl
theorem laidOut : laidOutB Try.prog = true := by kernel_rfl
set_option maxRecDepth 100000 in
theorem contract (H : Type) (enc : TypeId × Value → H) (W : World) (base : Nat) (args : Array Value) (ds gs : List (DataW H)) (before : List MemPlace)
    (hval : ∀ (j : Nat) t v, Try.f8.params[j]? = some t → args[j]? = some v → Value.okWide Try.prog W .any base t v)
    (hW : DataW.Whole enc Try.prog Try.f8.params.toList Rows.filterBothSpec.vars false W args.toList ds gs before) (hkk : Rows.uptoSmall H (ds ++ gs) = true) (hwt0 : (DataW.weightsEach Try.prog (Try.f8.params.toList ++ Rows.filterBothSpec.plain.varTypes Try.prog) (ds ++ gs)).all (· ≤ reachBytes) = true) :
    Calls Try.prog 8 args W fun e W' => ∃ v, e = .returned v ∧ Rows.filterBothSpec.post enc Try.prog Try.f8 false true false false W args v W' := by
  have hW1 := hW
  obtain ⟨p, q, hA0, hV, rfl, hfz, hnd⟩ := hW
  have hA : DataW.TrodAll enc Try.prog W 0 (fun _ => true) true Try.f8.params.toList args.toList ds p := hA0
  have hlt : ∀ x ∈ p ++ q, x.block < W.heap.size := fun x hx => by simpa using hW1.lt x hx
  obtain ⟨rfl, rfl⟩ := trodVars_none hV
  have hwt : ∀ n ∈ DataW.weightsEach Try.prog Try.f8.params.toList ds, n ≤ reachBytes := fun n hn => by
    have e1 : Try.f8.params.toList ++ Rows.filterBothSpec.plain.varTypes Try.prog = Try.f8.params.toList := List.append_nil _
    rw [e1, List.append_nil] at hwt0
    simpa using List.all_eq_true.1 hwt0 n hn
  rw [Try.params8] at hA hval hwt
  obtain ⟨v0, vs0, d0, ds0, p0, r0, hargs, rfl, rfl, h0, hA1⟩ := trodAll_cons hA
  obtain ⟨v1, vs1, d1, ds1, p1, r1, rfl, rfl, rfl, h1, hA2⟩ := trodAll_cons hA1
  obtain ⟨v2, vs2, d2, ds2, p2, r2, rfl, rfl, rfl, h2, hA3⟩ := trodAll_cons hA2
  obtain ⟨rfl, rfl, rfl⟩ := trodAll_nil hA3
  obtain rfl : args = #[v0, v1, v2] := by cases args; simp_all
  have hkb : Rows.uptoBulkAll [d0, d1, d2] ≤ 1048576 := by have := bulk_bound hkk; simpa using this
  have hk0 := h0
  obtain ⟨fu0, t0⟩ := h0
  have hv0 := hval 0 22 v0 rfl rfl
  have hc0 := arg_nonagg (by kernel_rfl) hv0
  rw [hc0] at t0
  obtain ⟨q0, e0, k0⟩ := (rd_slice (P := Try.prog) (t := 22) (e := 28) (bytes := 24) (by kernel_rfl) rdFilter).read enc W fu0 _ _ t0 (fun n hn => hwt n (mem_weightsEach (i := 0) rfl rfl n hn))
  obtain ⟨ao0a, cap0a, f0, s0a⟩ := e0
  obtain rfl : v0 = .slice ao0a q0.length cap0a := by have f : [v0] = [.slice ao0a q0.length cap0a] := f0; simpa using f
  have b0 : q0.length ≤ 1048576 := by
    rcases slice_len (t := 22) (e := 28) (by kernel_rfl) t0 with h9 | ⟨el, sp, h9, h10⟩
    · omega
    · have h11 := bulk_slice el sp
      have h12 := Nat.le_trans (bulk_part (l := [d0, d1, d2]) (d := d0) (by simp)) hkb
      have h9 : d0 = .slice el sp := h9
      rw [h9] at h12
      omega
  have hk1 := h1
  obtain ⟨fu1, t1⟩ := h1
  have hv1 := hval 1 22 v1 rfl rfl
  have hc1 := arg_nonagg (by kernel_rfl) hv1
  rw [hc1] at t1
  obtain ⟨q1, e1, k1⟩ := (rd_slice (P := Try.prog) (t := 22) (e := 28) (bytes := 24) (by kernel_rfl) rdFilter).read enc W fu1 _ _ t1 (fun n hn => hwt n (mem_weightsEach (i := 1) rfl rfl n hn))
  obtain ⟨ao1a, cap1a, f1, s1a⟩ := e1
  obtain rfl : v1 = .slice ao1a q1.length cap1a := by have f : [v1] = [.slice ao1a q1.length cap1a] := f1; simpa using f
  have b1 : q1.length ≤ 1048576 := by
    rcases slice_len (t := 22) (e := 28) (by kernel_rfl) t1 with h9 | ⟨el, sp, h9, h10⟩
    · omega
    · have h11 := bulk_slice el sp
      have h12 := Nat.le_trans (bulk_part (l := [d0, d1, d2]) (d := d1) (by simp)) hkb
      have h9 : d1 = .slice el sp := h9
      rw [h9] at h12
      omega
  have hk2 := h2
  obtain ⟨fu2, t2⟩ := h2
  have hv2 := hval 2 38 v2 rfl rfl
  obtain ⟨c2, rfl, hc2⟩ := arg_agg (k := 6) (by kernel_rfl) hv2
  rw [hc2] at t2
  obtain ⟨q2, e2, k2⟩ := rdFrame.read enc W fu2 _ _ t2 (fun n hn => hwt n (mem_weightsEach (i := 2) rfl rfl n hn))
  obtain ⟨ao2a, cap2a, f2, s2a⟩ := e2
  obtain rfl : c2 = [.int .i64 q2.ID, .bool q2.Long, .bool q2.Fast, .bool q2.Remote, .int .i64 q2.Size, .slice ao2a q2.Data.length cap2a] := f2
  refine (LBoth_walk q0 q1 q2 ao0a cap0a ao1a cap1a ao2a cap2a (Zw W) W s0a s1a s2a (Zw_on W) (K := fun r => r = true) (LBoth_ok q0 q1 q2 k0 k1 k2 b0 b1)).mono fun e W1 h => ?_
  obtain ⟨r, rfl, hr, hb⟩ := h
  subst hr
  refine ⟨_, rfl, _, [], _, [], (p0 ++ (p1 ++ (p2 ++ []))), [], hW1, trodAll_mk1 (shut_bool (by kernel_rfl) _), ?_, rfl, hb.frame _, fun h => by cases h⟩
  rw [Try.params8]
  exact (trodAll_cons_mk (Below.trod laidOut (by kernel_rfl) (of_decide_eq_true (by kernel_rfl)) hk0 hb (fun x hx => hlt x (by simp [hx]))) (trodAll_cons_mk (Below.trod laidOut (by kernel_rfl) (of_decide_eq_true (by kernel_rfl)) hk1 hb (fun x hx => hlt x (by simp [hx]))) (trodAll_cons_mk (Below.trod laidOut (by kernel_rfl) (of_decide_eq_true (by kernel_rfl)) hk2 hb (fun x hx => hlt x (by simp [hx]))) trodAll_mk0)))
set_option maxRecDepth 100000 in
theorem lifted (os : Os) (started : os.Started) (H : Type) (enc : TypeId × Value → H) (F : Stop.Interp) :
    ReturnsInHanded {} Try.checked os 8 .any ((Rows.OpenSpec.upto Rows.filterBothSpec).pre6 enc Try.prog Try.f8 Rows.filterBothUptoRow.domain false) (((Rows.OpenSpec.upto Rows.filterBothSpec).at F).post enc Try.prog Try.f8 false true false false) := by
  refine returnsInHanded_of_cond_sized (C := Try.checked) (s := (Rows.OpenSpec.upto Rows.filterBothSpec)) (k := Rows.uptoSmall) rfl own started (by kernel_rfl) Try.func8
    (OpenSpec.witness (enc := enc) (C := Try.checked) (s := (Rows.OpenSpec.upto Rows.filterBothSpec)) (k := Rows.uptoSmall) rfl false ⟨#[], #[.slice none 0 0, .slice none 0 0, .agg #[.int .i64 0, .bool false, .bool false, .bool false, .int .i64 0, .slice none 0 0]], []⟩ 8 (by kernel_rfl) (by kernel_rfl) (by kernel_rfl)
      (x := ([.nil, .nil, .agg [.lit (.int .i64 0), .lit (.bool false), .lit (.bool false), .lit (.bool false), .lit (.int .i64 0), .nil]], [], [])) (by kernel_rfl) rfl (by kernel_rfl)) ?_
  intro W base args ds gs before hval hW _ hk hwt _
  exact contract H enc W base args ds gs before hval hW hk hwt
theorem proved : Rows.FilterBothUptoSaid :=
  OpenClaim.holds_of_cond 8 Try.f8 rfl rfl rfl rfl rfl rfl rfl ⟨rfl, rfl, rfl, rfl, rfl⟩ rfl rfl rfl rfl rfl (by kernel_rfl) Try.func8 (by kernel_rfl)
    (of_decide_eq_true (by kernel_rfl)) (by unfold Func.isWrapper; first | (rw [if_pos (by decide +kernel)]; kernel_rfl) | (rw [if_neg (by decide +kernel)]; exact ⟨rfl, rfl⟩))
    (fun os started H enc _ F => lifted os started H enc F)
end filterBothLaw

end Go.Proofs.Ytkogkombalcgeaa
