/- The walks, made by program: each call does what its pure predicate says. -/
import Derived.Test.YtginlmgkimfjmaaRows
import Derived.Test.YtginlmgkimfjmaaPDa
import Derived.Test.YtginlmgkimfjmaaBld
namespace Go.Proofs
open Go.Shelf
def Try.lays166_ren : Go.Shelf.Ren := ⟨fun | 166 => 128 | 240 => 135 | 276 => 137 | n => n, fun | 37 => 22 | 70 => 189 | 72 => 191 | 75 => 193 | 80 => 196 | 164 => 204 | n => n, fun n => n⟩
theorem Try.lays166 : Lays.n166 Try.prog Try.lays166_ren := {
  mixed := by kernel_rfl
  f166 := Try.func128.trans (congrArg some (by kernel_rfl))
  f240 := Try.func135.trans (congrArg some (by kernel_rfl))
  f276 := Try.func137.trans (congrArg some (by kernel_rfl))
  t0 := Try.underlying0
  a0 := Try.isAgg0
  z0 := Try.sizeOf0
  v0 := Try.zeroValue0
  t3 := Try.underlying3
  a3 := Try.isAgg3
  z3 := Try.sizeOf3
  v3 := Try.zeroValue3
  t4 := Try.underlying4
  a4 := Try.isAgg4
  z4 := Try.sizeOf4
  v4 := Try.zeroValue4
  t9 := Try.underlying9
  a9 := Try.isAgg9
  z9 := Try.sizeOf9
  v9 := Try.zeroValue9
  t20 := Try.underlying20
  a20 := Try.isAgg20
  z20 := Try.sizeOf20
  v20 := Try.zeroValue20
  t37 := Try.underlying22
  a37 := Try.isAgg22
  z37 := Try.sizeOf22
  v37 := Try.zeroValue22
  t70 := Try.underlying189
  a70 := Try.isAgg189
  z70 := Try.sizeOf189
  v70 := Try.zeroValue189
  t72 := Try.underlying191
  a72 := Try.isAgg191
  z72 := Try.sizeOf191
  v72 := Try.zeroValue191
  t75 := Try.underlying193
  a75 := Try.isAgg193
  z75 := Try.sizeOf193
  v75 := Try.zeroValue193
  t164 := Try.underlying204
  a164 := Try.isAgg204
  z164 := Try.sizeOf204
  v164 := Try.zeroValue204 }
theorem Try.lays166X : Builder.Extra Try.prog Try.lays166_ren := {
  sizeBuilder := by kernel_rfl
  liesBuilder := by kernel_rfl
  t5 := by kernel_rfl
  a5 := fun w => by kernel_rfl
  z5 := fun w => by kernel_rfl
  v5 := fun w => by kernel_rfl
  infoByte := by kernel_rfl
  cellsByte := by kernel_rfl
  sizeByte := by kernel_rfl
  neB5 := by decide }

def Try.lays169_ren : Go.Shelf.Ren := ⟨fun | 169 => 129 | n => n, fun | 37 => 22 | 70 => 189 | 72 => 191 | 127 => 203 | n => n, fun n => n⟩
theorem Try.lays169 : Lays.n169 Try.prog Try.lays169_ren := {
  mixed := by kernel_rfl
  f169 := Try.func129.trans (congrArg some (by kernel_rfl))
  t0 := Try.underlying0
  a0 := Try.isAgg0
  z0 := Try.sizeOf0
  v0 := Try.zeroValue0
  t3 := Try.underlying3
  a3 := Try.isAgg3
  z3 := Try.sizeOf3
  v3 := Try.zeroValue3
  t9 := Try.underlying9
  a9 := Try.isAgg9
  z9 := Try.sizeOf9
  v9 := Try.zeroValue9
  t37 := Try.underlying22
  a37 := Try.isAgg22
  z37 := Try.sizeOf22
  v37 := Try.zeroValue22
  t70 := Try.underlying189
  a70 := Try.isAgg189
  z70 := Try.sizeOf189
  v70 := Try.zeroValue189
  t72 := Try.underlying191
  a72 := Try.isAgg191
  z72 := Try.sizeOf191
  v72 := Try.zeroValue191
  t127 := Try.underlying203
  a127 := Try.isAgg203
  z127 := Try.sizeOf203
  v127 := Try.zeroValue203 }
theorem Try.lays169X : Builder.Extra Try.prog Try.lays169_ren := {
  sizeBuilder := by kernel_rfl
  liesBuilder := by kernel_rfl
  t5 := by kernel_rfl
  a5 := fun w => by kernel_rfl
  z5 := fun w => by kernel_rfl
  v5 := fun w => by kernel_rfl
  infoByte := by kernel_rfl
  cellsByte := by kernel_rfl
  sizeByte := by kernel_rfl
  neB5 := by decide }

end Go.Proofs
set_option linter.unusedVariables false
set_option linter.unusedSimpArgs false
namespace Go.Proofs.Ytginlmgkimfjmaa
open Go.Sy Go.RowKit
theorem mixed : Try.prog.follows .mixedOrders = true := by kernel_rfl
theorem rdFrame : Rd Try.prog 58 tyFrame okFrame := by
  refine ⟨fun enc w fuel cs x h hw => ?_⟩
  have hu : Try.prog.underlying 58 = some (.struct _) := Try.underlying58
  have hl := rd_len hu h (m := 6) (by kernel_rfl)
  obtain ⟨q0, h0, k0⟩ := rd_field hu h hw 0 rfl (rd_int (P := Try.prog) (t := 3) (k := .i64) (by kernel_rfl)) (m := 1) (by kernel_rfl) (off := 0) rfl
  have e0 : (cs.drop 0).take 1 = [.int .i64 q0] := h0
  obtain ⟨q1, h1, k1⟩ := rd_field hu h hw 1 rfl (rd_bool (P := Try.prog) (t := 4) (by kernel_rfl)) (m := 1) (by kernel_rfl) (off := 1) rfl
  have e1 : (cs.drop 1).take 1 = [.bool q1] := h1
  obtain ⟨q2, h2, k2⟩ := rd_field hu h hw 2 rfl (rd_bool (P := Try.prog) (t := 4) (by kernel_rfl)) (m := 1) (by kernel_rfl) (off := 2) rfl
  have e2 : (cs.drop 2).take 1 = [.bool q2] := h2
  obtain ⟨q3, h3, k3⟩ := rd_field hu h hw 3 rfl (rd_bool (P := Try.prog) (t := 4) (by kernel_rfl)) (m := 1) (by kernel_rfl) (off := 3) rfl
  have e3 : (cs.drop 3).take 1 = [.bool q3] := h3
  obtain ⟨q4, h4, k4⟩ := rd_field hu h hw 4 rfl (rd_int (P := Try.prog) (t := 3) (k := .i64) (by kernel_rfl)) (m := 1) (by kernel_rfl) (off := 4) rfl
  have e4 : (cs.drop 4).take 1 = [.int .i64 q4] := h4
  obtain ⟨q5, h5, k5⟩ := rd_field hu h hw 5 rfl (rd_slice (P := Try.prog) (t := 22) (e := 5) (bytes := 1) (by kernel_rfl) (rd_int (P := Try.prog) (t := 5) (k := .u8) (by kernel_rfl))) (m := 1) (by kernel_rfl) (off := 5) rfl
  obtain ⟨ao0, cap0, h5, s0⟩ := h5
  have e5 : (cs.drop 5).take 1 = [.slice ao0 q5.length cap0] := h5
  have z : cs.drop 6 = [] := List.drop_eq_nil_of_le (by omega)
  have g5 : cs.drop 5 = [.slice ao0 q5.length cap0] := by rw [show cs.drop 5 = (cs.drop 5).take 1 ++ cs.drop 6 from cut_at cs 5 1, e5, z]; rfl
  have g4 : cs.drop 4 = [.int .i64 q4, .slice ao0 q5.length cap0] := by rw [show cs.drop 4 = (cs.drop 4).take 1 ++ cs.drop 5 from cut_at cs 4 1, e4, g5]; rfl
  have g3 : cs.drop 3 = [.bool q3, .int .i64 q4, .slice ao0 q5.length cap0] := by rw [show cs.drop 3 = (cs.drop 3).take 1 ++ cs.drop 4 from cut_at cs 3 1, e3, g4]; rfl
  have g2 : cs.drop 2 = [.bool q2, .bool q3, .int .i64 q4, .slice ao0 q5.length cap0] := by rw [show cs.drop 2 = (cs.drop 2).take 1 ++ cs.drop 3 from cut_at cs 2 1, e2, g3]; rfl
  have g1 : cs.drop 1 = [.bool q1, .bool q2, .bool q3, .int .i64 q4, .slice ao0 q5.length cap0] := by rw [show cs.drop 1 = (cs.drop 1).take 1 ++ cs.drop 2 from cut_at cs 1 1, e1, g2]; rfl
  have g0 : cs.drop 0 = [.int .i64 q0, .bool q1, .bool q2, .bool q3, .int .i64 q4, .slice ao0 q5.length cap0] := by rw [show cs.drop 0 = (cs.drop 0).take 1 ++ cs.drop 1 from cut_at cs 0 1, e0, g1]; rfl
  refine ⟨⟨q0, q1, q2, q3, q4, q5⟩, ?_, k0, k1, k2, k3, k4, k5⟩
  rw [List.drop_zero] at g0
  exact ⟨ao0, cap0, g0, s0⟩

theorem rdTask : Rd Try.prog 34 tyTask okTask := by
  refine ⟨fun enc w fuel cs x h hw => ?_⟩
  have hu : Try.prog.underlying 34 = some (.struct _) := Try.underlying34
  have hl := rd_len hu h (m := 5) (by kernel_rfl)
  obtain ⟨q0, h0, k0⟩ := rd_field hu h hw 0 rfl (rd_int (P := Try.prog) (t := 3) (k := .i64) (by kernel_rfl)) (m := 1) (by kernel_rfl) (off := 0) rfl
  have e0 : (cs.drop 0).take 1 = [.int .i64 q0] := h0
  obtain ⟨q1, h1, k1⟩ := rd_field hu h hw 1 rfl (rd_int (P := Try.prog) (t := 3) (k := .i64) (by kernel_rfl)) (m := 1) (by kernel_rfl) (off := 1) rfl
  have e1 : (cs.drop 1).take 1 = [.int .i64 q1] := h1
  obtain ⟨q2, h2, k2⟩ := rd_field hu h hw 2 rfl (rd_int (P := Try.prog) (t := 3) (k := .i64) (by kernel_rfl)) (m := 1) (by kernel_rfl) (off := 2) rfl
  have e2 : (cs.drop 2).take 1 = [.int .i64 q2] := h2
  obtain ⟨q3, h3, k3⟩ := rd_field hu h hw 3 rfl (rd_int (P := Try.prog) (t := 3) (k := .i64) (by kernel_rfl)) (m := 1) (by kernel_rfl) (off := 3) rfl
  have e3 : (cs.drop 3).take 1 = [.int .i64 q3] := h3
  obtain ⟨q4, h4, k4⟩ := rd_field hu h hw 4 rfl (rd_int (P := Try.prog) (t := 3) (k := .i64) (by kernel_rfl)) (m := 1) (by kernel_rfl) (off := 4) rfl
  have e4 : (cs.drop 4).take 1 = [.int .i64 q4] := h4
  have z : cs.drop 5 = [] := List.drop_eq_nil_of_le (by omega)
  have g4 : cs.drop 4 = [.int .i64 q4] := by rw [show cs.drop 4 = (cs.drop 4).take 1 ++ cs.drop 5 from cut_at cs 4 1, e4, z]; rfl
  have g3 : cs.drop 3 = [.int .i64 q3, .int .i64 q4] := by rw [show cs.drop 3 = (cs.drop 3).take 1 ++ cs.drop 4 from cut_at cs 3 1, e3, g4]; rfl
  have g2 : cs.drop 2 = [.int .i64 q2, .int .i64 q3, .int .i64 q4] := by rw [show cs.drop 2 = (cs.drop 2).take 1 ++ cs.drop 3 from cut_at cs 2 1, e2, g3]; rfl
  have g1 : cs.drop 1 = [.int .i64 q1, .int .i64 q2, .int .i64 q3, .int .i64 q4] := by rw [show cs.drop 1 = (cs.drop 1).take 1 ++ cs.drop 2 from cut_at cs 1 1, e1, g2]; rfl
  have g0 : cs.drop 0 = [.int .i64 q0, .int .i64 q1, .int .i64 q2, .int .i64 q3, .int .i64 q4] := by rw [show cs.drop 0 = (cs.drop 0).take 1 ++ cs.drop 1 from cut_at cs 0 1, e0, g1]; rfl
  refine ⟨⟨q0, q1, q2, q3, q4⟩, ?_, k0, k1, k2, k3, k4⟩
  rw [List.drop_zero] at g0
  exact g0

theorem rdStop : Rd Try.prog 40 tyStop okStop := by
  refine ⟨fun enc w fuel cs x h hw => ?_⟩
  have hu : Try.prog.underlying 40 = some (.struct _) := Try.underlying40
  have hl := rd_len hu h (m := 2) (by kernel_rfl)
  obtain ⟨q0, h0, k0⟩ := rd_field hu h hw 0 rfl (rd_int (P := Try.prog) (t := 3) (k := .i64) (by kernel_rfl)) (m := 1) (by kernel_rfl) (off := 0) rfl
  have e0 : (cs.drop 0).take 1 = [.int .i64 q0] := h0
  obtain ⟨q1, h1, k1⟩ := rd_field hu h hw 1 rfl (rd_bool (P := Try.prog) (t := 4) (by kernel_rfl)) (m := 1) (by kernel_rfl) (off := 1) rfl
  have e1 : (cs.drop 1).take 1 = [.bool q1] := h1
  have z : cs.drop 2 = [] := List.drop_eq_nil_of_le (by omega)
  have g1 : cs.drop 1 = [.bool q1] := by rw [show cs.drop 1 = (cs.drop 1).take 1 ++ cs.drop 2 from cut_at cs 1 1, e1, z]; rfl
  have g0 : cs.drop 0 = [.int .i64 q0, .bool q1] := by rw [show cs.drop 0 = (cs.drop 0).take 1 ++ cs.drop 1 from cut_at cs 0 1, e0, g1]; rfl
  refine ⟨⟨q0, q1⟩, ?_, k0, k1⟩
  rw [List.drop_zero] at g0
  exact g0

theorem rdKind : Rd Try.prog 176 tyKind okKind := by
  refine ⟨fun enc w fuel cs x h hw => ?_⟩
  have hu : Try.prog.underlying 176 = some (.struct _) := Try.underlying176
  have hl := rd_len hu h (m := 4) (by kernel_rfl)
  obtain ⟨q0, h0, k0⟩ := rd_field hu h hw 0 rfl (rd_int (P := Try.prog) (t := 3) (k := .i64) (by kernel_rfl)) (m := 1) (by kernel_rfl) (off := 0) rfl
  have e0 : (cs.drop 0).take 1 = [.int .i64 q0] := h0
  obtain ⟨q1, h1, k1⟩ := rd_field hu h hw 1 rfl (rd_int (P := Try.prog) (t := 169) (k := .u64) (by kernel_rfl)) (m := 1) (by kernel_rfl) (off := 1) rfl
  have e1 : (cs.drop 1).take 1 = [.int .u64 q1] := h1
  obtain ⟨q2, h2, k2⟩ := rd_field hu h hw 2 rfl (rd_int (P := Try.prog) (t := 169) (k := .u64) (by kernel_rfl)) (m := 1) (by kernel_rfl) (off := 2) rfl
  have e2 : (cs.drop 2).take 1 = [.int .u64 q2] := h2
  obtain ⟨q3, h3, k3⟩ := rd_field hu h hw 3 rfl (rd_int (P := Try.prog) (t := 169) (k := .u64) (by kernel_rfl)) (m := 1) (by kernel_rfl) (off := 3) rfl
  have e3 : (cs.drop 3).take 1 = [.int .u64 q3] := h3
  have z : cs.drop 4 = [] := List.drop_eq_nil_of_le (by omega)
  have g3 : cs.drop 3 = [.int .u64 q3] := by rw [show cs.drop 3 = (cs.drop 3).take 1 ++ cs.drop 4 from cut_at cs 3 1, e3, z]; rfl
  have g2 : cs.drop 2 = [.int .u64 q2, .int .u64 q3] := by rw [show cs.drop 2 = (cs.drop 2).take 1 ++ cs.drop 3 from cut_at cs 2 1, e2, g3]; rfl
  have g1 : cs.drop 1 = [.int .u64 q1, .int .u64 q2, .int .u64 q3] := by rw [show cs.drop 1 = (cs.drop 1).take 1 ++ cs.drop 2 from cut_at cs 1 1, e1, g2]; rfl
  have g0 : cs.drop 0 = [.int .i64 q0, .int .u64 q1, .int .u64 q2, .int .u64 q3] := by rw [show cs.drop 0 = (cs.drop 0).take 1 ++ cs.drop 1 from cut_at cs 0 1, e0, g1]; rfl
  refine ⟨⟨q0, q1, q2, q3⟩, ?_, k0, k1, k2, k3⟩
  rw [List.drop_zero] at g0
  exact g0

theorem rdSlot : Rd Try.prog 48 tySlot okSlot := by
  refine ⟨fun enc w fuel cs x h hw => ?_⟩
  have hu : Try.prog.underlying 48 = some (.struct _) := Try.underlying48
  have hl := rd_len hu h (m := 4) (by kernel_rfl)
  obtain ⟨q0, h0, k0⟩ := rd_field hu h hw 0 rfl (rd_int (P := Try.prog) (t := 3) (k := .i64) (by kernel_rfl)) (m := 1) (by kernel_rfl) (off := 0) rfl
  have e0 : (cs.drop 0).take 1 = [.int .i64 q0] := h0
  obtain ⟨q1, h1, k1⟩ := rd_field hu h hw 1 rfl (rd_int (P := Try.prog) (t := 3) (k := .i64) (by kernel_rfl)) (m := 1) (by kernel_rfl) (off := 1) rfl
  have e1 : (cs.drop 1).take 1 = [.int .i64 q1] := h1
  obtain ⟨q2, h2, k2⟩ := rd_field hu h hw 2 rfl (rd_int (P := Try.prog) (t := 3) (k := .i64) (by kernel_rfl)) (m := 1) (by kernel_rfl) (off := 2) rfl
  have e2 : (cs.drop 2).take 1 = [.int .i64 q2] := h2
  obtain ⟨q3, h3, k3⟩ := rd_field hu h hw 3 rfl (rd_int (P := Try.prog) (t := 3) (k := .i64) (by kernel_rfl)) (m := 1) (by kernel_rfl) (off := 3) rfl
  have e3 : (cs.drop 3).take 1 = [.int .i64 q3] := h3
  have z : cs.drop 4 = [] := List.drop_eq_nil_of_le (by omega)
  have g3 : cs.drop 3 = [.int .i64 q3] := by rw [show cs.drop 3 = (cs.drop 3).take 1 ++ cs.drop 4 from cut_at cs 3 1, e3, z]; rfl
  have g2 : cs.drop 2 = [.int .i64 q2, .int .i64 q3] := by rw [show cs.drop 2 = (cs.drop 2).take 1 ++ cs.drop 3 from cut_at cs 2 1, e2, g3]; rfl
  have g1 : cs.drop 1 = [.int .i64 q1, .int .i64 q2, .int .i64 q3] := by rw [show cs.drop 1 = (cs.drop 1).take 1 ++ cs.drop 2 from cut_at cs 1 1, e1, g2]; rfl
  have g0 : cs.drop 0 = [.int .i64 q0, .int .i64 q1, .int .i64 q2, .int .i64 q3] := by rw [show cs.drop 0 = (cs.drop 0).take 1 ++ cs.drop 1 from cut_at cs 0 1, e0, g1]; rfl
  refine ⟨⟨q0, q1, q2, q3⟩, ?_, k0, k1, k2, k3⟩
  rw [List.drop_zero] at g0
  exact g0

set_option maxRecDepth 100000 in
set_option maxHeartbeats 0 in
theorem bwrite_walk (u0 : Int) (u1 : Int)  (Z : Fz) (w : World)  (hZ : Z.on w) {K : (List UInt8) → Prop} (hp : bwrite_vc u0 u1 K) : Calls Try.prog 115 #[.int .u64 u0, .int .i64 u1] w fun e w' => ∃ r : (List UInt8), e = .returned (str r) ∧ K r ∧ Below w.heap.size w w' := by
 refine enter0 Try.func115 rfl rfl (by kernel_rfl) ?_; intro a0 hF0; have hM0 := Mem.start w Z hZ; have hle0 := Fz.le.refl Z
 refine sqH ?_; intro hQ1Q hQ1
 refine s1 hF0 4 (str []) ?_; intro a2 hF3; clear hF0
 refine nlH (hQ1 _ _ ?_); clear hQ1 hQ1Q
 refine sqH ?_; intro hQ4Q hQ4
 refine s1 hF3 7 (.int .i64 u1) ?_; intro a5 hF6; clear hF3
 have hc7 := hp.1; have hp8 := hp.2; clear hp
 refine mks hF6 hM0 (T := (tyInt .u8)) u1 u1 (k := .i64) (k' := .i64) (e := 5) (bytes := 1) (zs := [.int .u8 0]) (z := 0) (by simp only [lim]; omega) (nog rfl _) rfl (by kernel_rfl) rfl (by kernel_rfl) (by kernel_rfl) (by kernel_rfl) (by kernel_rfl) rfl ?_; intro g9 a12 wd10 hF13 hM11; clear hF6 hM0
 have hM14 : Mem w.heap.size [] w Z [.own (tyInt .u8) 5 (some ⟨g9, 0, none⟩) u1.toNat (List.replicate u1.toNat (0 : Int))] Z wd10 := hM11; clear hM11
 refine s1 hF13 5 (.slice (some ⟨g9, 0, none⟩) (List.replicate u1.toNat (0 : Int)).length u1.toNat) ?_; intro a15 hF16; clear hF13
 refine nlH (hQ4 _ _ ?_); clear hQ4 hQ4Q
 refine wp_seq ?_
 refine sqH ?_; intro hQ17Q hQ17
 refine s1 hF16 9 (.int .i64 u1) ?_; intro a18 hF19; clear hF16
 refine s1 hF19 10 (.int .i64 0) ?_; intro a20 hF21; clear hF19
 refine nlH (hQ17 _ _ ?_); clear hQ17 hQ17Q
 refine wp_block ?_
 have hF22 : Fr 28 [] [⟨0, [], .int .u64 u0⟩, ⟨1, [], .int .i64 u1⟩, ⟨5, [], .slice (some ⟨g9, 0, none⟩) (List.replicate u1.toNat (0 : Int)).length u1.toNat⟩, ⟨9, [], .int .i64 u1⟩, ⟨10, [], .int .i64 0⟩] a20 := hF21.region (by kernel_rfl) (by kernel_rfl); clear hF21
 have hF24 : Fr 28 [] [⟨0, [], .int .u64 u0⟩, ⟨1, [], .int .i64 u1⟩, ⟨5, [], .slice (some ⟨g9, 0, none⟩) (List.replicate u1.toNat (0 : Int)).length u1.toNat⟩, ⟨9, [], .int .i64 u1⟩, ⟨10, [], .int .i64 0⟩] a20 := hF22.region (by kernel_rfl) (by kernel_rfl); clear hF22
 obtain ⟨inv23, mu23, hI27, hr26⟩ := hp8
 refine lp (ι := Int × Int × (List Int)) (fun (s : Int × Int × (List Int)) => [⟨0, [], .int .u64 s.1⟩, ⟨1, [], .int .i64 u1⟩, ⟨5, [], .slice (some ⟨g9, 0, none⟩) s.2.2.length u1.toNat⟩, ⟨9, [], .int .i64 u1⟩, ⟨10, [], .int .i64 s.2.1⟩]) (fun (s : Int × Int × (List Int)) => [.own (tyInt .u8) 5 (some ⟨g9, 0, none⟩) u1.toNat s.2.2]) (fun (s : Int × Int × (List Int)) => Z) (fun (s : Int × Int × (List Int)) => inv23 s.1 s.2.1 s.2.2) (fun (s : Int × Int × (List Int)) => mu23 s.1 s.2.1 s.2.2) ⟨u0, 0, (List.replicate u1.toNat (0 : Int))⟩ hI27 (by exact hF24.region (by kernel_rfl) (by kernel_rfl)) (by exact hM14) ?_
 rintro ⟨x0, x10, zg90⟩ hI25 a29 wd30 hF31 hM32
 have hF33 : Fr 28 [] [⟨0, [], .int .u64 x0⟩, ⟨1, [], .int .i64 u1⟩, ⟨5, [], .slice (some ⟨g9, 0, none⟩) zg90.length u1.toNat⟩, ⟨9, [], .int .i64 u1⟩, ⟨10, [], .int .i64 x10⟩] a29 := hF31; clear hF31 hF24
 have hM34 : Mem w.heap.size [] w Z [.own (tyInt .u8) 5 (some ⟨g9, 0, none⟩) u1.toNat zg90] Z wd30 := hM32; clear hM32 hM14
 have hp35 := hr26 x0 x10 zg90 hI25
 refine sqH ?_; intro hQ36Q hQ36
 refine s1 hF33 11 (.bool (decide (x10 < u1))) ?_; intro a37 hF38; clear hF33
 refine nlH (hQ36 _ _ ?_); clear hQ36 hQ36Q
 refine wp_seq ?_
 refine cd hF38 (t := decide (x10 < u1)) (by kernel_rfl) (fun hb39 => ?_) (fun hb39 => ?_)
 · -- yes
  have hp40 := hp35.1 hb39; clear hp35
  refine wp_skip ?_
  refine thn ?_
  refine wp_seq ?_
  refine wp_block ?_
  refine sqH ?_; intro hQ41Q hQ41
  refine s1 hF38 12 (.int .i64 x10) ?_; intro a42 hF43; clear hF38
  refine s1 hF43 6 (.int .i64 x10) ?_; intro a44 hF45; clear hF43
  refine nlH (hQ41 _ _ ?_); clear hQ41 hQ41Q
  refine sqH ?_; intro hQ46Q hQ46
  refine s1 hF45 13 (.slice (some ⟨g9, 0, none⟩) zg90.length u1.toNat) ?_; intro a47 hF48; clear hF45
  refine s1 hF48 14 (.int .i64 u1) ?_; intro a49 hF50; clear hF48
  refine s1 hF50 15 (.int .i64 (w64 (u1 - 1))) ?_; intro a51 hF52; clear hF50
  refine s1 hF52 16 (.int .i64 x10) ?_; intro a53 hF54; clear hF52
  refine s1 hF54 17 (.int .i64 (w64 ((w64 (u1 - 1)) - x10))) ?_; intro a55 hF56; clear hF54
  refine s1 hF56 18 (.int .u64 x0) ?_; intro a57 hF58; clear hF56
  refine s1 hF58 19 (.int .u64 (bAnd .u64 x0 1)) ?_; intro a59 hF60; clear hF58
  refine s1 hF60 20 (.int .u8 (w8 (bAnd .u64 x0 1))) ?_; intro a61 hF62; clear hF60
  refine s1 hF62 21 (.int .u8 (w8 (48 + (w8 (bAnd .u64 x0 1))))) ?_; intro a63 hF64; clear hF62
  have hc65 := hp40.1; have hp66 := hp40.2; clear hp40
  refine ixo hF64 hM34 0 (T := (tyInt .u8)) (xs := zg90) (w64 ((w64 (u1 - 1)) - x10)) hc65 (k := .i64) (e := 5) (bytes := 1) (nog rfl _) rfl (by kernel_rfl) rfl (by kernel_rfl) (by kernel_rfl) rfl (by kernel_rfl) ?_; intro g67 a69 hg68 hF70; clear hF64
  obtain rfl : g9 = g67 := by simpa using hg68
  have hF71 : Fr 28 [] [⟨0, [], .int .u64 x0⟩, ⟨1, [], .int .i64 u1⟩, ⟨5, [], .slice (some ⟨g9, 0, none⟩) zg90.length u1.toNat⟩, ⟨6, [], .int .i64 x10⟩, ⟨9, [], .int .i64 u1⟩, ⟨10, [], .int .i64 x10⟩, ⟨11, [], .bool (decide (x10 < u1))⟩, ⟨12, [], .int .i64 x10⟩, ⟨13, [], .slice (some ⟨g9, 0, none⟩) zg90.length u1.toNat⟩, ⟨14, [], .int .i64 u1⟩, ⟨15, [], .int .i64 (w64 (u1 - 1))⟩, ⟨16, [], .int .i64 x10⟩, ⟨17, [], .int .i64 (w64 ((w64 (u1 - 1)) - x10))⟩, ⟨18, [], .int .u64 x0⟩, ⟨19, [], .int .u64 (bAnd .u64 x0 1)⟩, ⟨20, [], .int .u8 (w8 (bAnd .u64 x0 1))⟩, ⟨21, [], .int .u8 (w8 (48 + (w8 (bAnd .u64 x0 1))))⟩, ⟨22, [], .pointer (some ⟨g9, (w64 ((w64 (u1 - 1)) - x10)).toNat * 1, none⟩)⟩] a69 := hF70.region (by kernel_rfl) (by kernel_rfl); clear hF70
  have hM72 : Mem w.heap.size [] w Z [.own (tyInt .u8) 5 (some ⟨g9, 0, none⟩) u1.toNat zg90] Z wd30 := hM34; clear hM34
  refine so hF71 hM72 0 (T := (tyInt .u8)) (xs := zg90) (w64 ((w64 (u1 - 1)) - x10)).toNat (w8 (48 + (w8 (bAnd .u64 x0 1)))) (u := .int .u8 (w8 (48 + (w8 (bAnd .u64 x0 1))))) (nog rfl _) rfl rfl (by kernel_rfl) rfl (by kernel_rfl) rfl (by kernel_rfl) (by first | omega | (simp only [List.length_set] at *; omega)) rfl ?_; intro wd73 hM74; clear hM72
  have hF75 : Fr 28 [] [⟨0, [], .int .u64 x0⟩, ⟨1, [], .int .i64 u1⟩, ⟨5, [], .slice (some ⟨g9, 0, none⟩) (zg90.set (w64 ((w64 (u1 - 1)) - x10)).toNat (w8 (48 + (w8 (bAnd .u64 x0 1))))).length u1.toNat⟩, ⟨6, [], .int .i64 x10⟩, ⟨9, [], .int .i64 u1⟩, ⟨10, [], .int .i64 x10⟩, ⟨11, [], .bool (decide (x10 < u1))⟩, ⟨12, [], .int .i64 x10⟩, ⟨13, [], .slice (some ⟨g9, 0, none⟩) (zg90.set (w64 ((w64 (u1 - 1)) - x10)).toNat (w8 (48 + (w8 (bAnd .u64 x0 1))))).length u1.toNat⟩, ⟨14, [], .int .i64 u1⟩, ⟨15, [], .int .i64 (w64 (u1 - 1))⟩, ⟨16, [], .int .i64 x10⟩, ⟨17, [], .int .i64 (w64 ((w64 (u1 - 1)) - x10))⟩, ⟨18, [], .int .u64 x0⟩, ⟨19, [], .int .u64 (bAnd .u64 x0 1)⟩, ⟨20, [], .int .u8 (w8 (bAnd .u64 x0 1))⟩, ⟨21, [], .int .u8 (w8 (48 + (w8 (bAnd .u64 x0 1))))⟩, ⟨22, [], .pointer (some ⟨g9, (w64 ((w64 (u1 - 1)) - x10)).toNat * 1, none⟩)⟩] a69 := by (try simp only [List.length_set] at hF71); (try simp only [List.length_set]); exact hF71.region (by kernel_rfl) (by kernel_rfl)
  clear hF71
  have hM76 : Mem w.heap.size [] w Z [.own (tyInt .u8) 5 (some ⟨g9, 0, none⟩) u1.toNat (zg90.set (w64 ((w64 (u1 - 1)) - x10)).toNat (w8 (48 + (w8 (bAnd .u64 x0 1)))))] Z wd73 := hM74; clear hM74
  refine nlH (hQ46 _ _ ?_); clear hQ46 hQ46Q
  refine rgH ?_; intro hQ77Q hQ77
  refine s1 hF75 23 (.int .u64 x0) ?_; intro a78 hF79; clear hF75
  refine s1 hF79 24 (.int .u64 (bShr .u64 x0 1)) ?_; intro a80 hF81; clear hF79
  refine s1 hF81 0 (.int .u64 (bShr .u64 x0 1)) ?_; intro a82 hF83; clear hF81
  refine nlH (hQ77 _ _ ?_); clear hQ77 hQ77Q
  refine ibn ?_
  refine thn ?_
  have hF84 : Fr 28 [] [⟨0, [], .int .u64 (bShr .u64 x0 1)⟩, ⟨1, [], .int .i64 u1⟩, ⟨5, [], .slice (some ⟨g9, 0, none⟩) (zg90.set (w64 ((w64 (u1 - 1)) - x10)).toNat (w8 (48 + (w8 (bAnd .u64 x0 1))))).length u1.toNat⟩, ⟨9, [], .int .i64 u1⟩, ⟨10, [], .int .i64 x10⟩] a82 := hF83.region (by kernel_rfl) (by kernel_rfl); clear hF83
  refine rgH ?_; intro hQ85Q hQ85
  refine s1 hF84 25 (.int .i64 (w64 (x10 + 1))) ?_; intro a86 hF87; clear hF84
  refine s1 hF87 10 (.int .i64 (w64 (x10 + 1))) ?_; intro a88 hF89; clear hF87
  refine nlH (hQ85 _ _ ?_); clear hQ85 hQ85Q
  refine rd ?_
  exact ⟨⟨bShr .u64 x0 1, w64 (x10 + 1), zg90.set (w64 ((w64 (u1 - 1)) - x10)).toNat (w8 (48 + (w8 (bAnd .u64 x0 1))))⟩, hp66.1, hp66.2, (hF89.region (by kernel_rfl) (by kernel_rfl)).anyβ _ (by kernel_rfl), hM76.keep (List.Sublist.cons_cons _ (List.Sublist.slnil))⟩
 · -- no
  have hp90 := hp35.2 hb39; clear hp35
  refine wp_exit ?_
  refine thx ?_
  refine thx ?_
  refine ibx ?_
  refine thn ?_
  refine sqH ?_; intro hQ91Q hQ91
  refine s1 hF38 26 (.slice (some ⟨g9, 0, none⟩) zg90.length u1.toNat) ?_; intro a92 hF93; clear hF38
  refine st hF93 (str (bstr zg90)) (nog rfl _) rfl (by kernel_rfl) ((by obtain ⟨Z9, hle9, hon9, hs9⟩ := hM34.lend 0 rfl; exact bstr_op hF93 (g := []) (e := 5) (ao := (some ⟨g9, 0, none⟩)) (cap := u1.toNat) (xs := zg90) rfl (by kernel_rfl) (by kernel_rfl) (by kernel_rfl) (by kernel_rfl)  hs9 hon9 rfl)) ?_; intro a94 hF95; clear hF93
  refine s1 hF95 4 (str (bstr zg90)) ?_; intro a96 hF97; clear hF95
  refine nlH (hQ91 _ _ ?_); clear hQ91 hQ91Q
  refine wp_ret ?_
  refine rt (fn := Try.f115) (v := str (bstr zg90)) hF97 (re1 hF97 (fn := Try.f115) rfl (by kernel_rfl)) ?_
  exact ⟨bstr zg90, rfl, hp90, hM34.below⟩

end Go.Proofs.Ytginlmgkimfjmaa
