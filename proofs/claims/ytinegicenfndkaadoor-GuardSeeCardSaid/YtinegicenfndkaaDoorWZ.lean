/- The walks, made by program: each call does what its pure predicate says. -/
import Derived.Test.YtinegicenfndkaaDoorRows
import Derived.Test.YtinegicenfndkaaDoorPZ
import Derived.Shelf.Lay
import Derived.Ground.NamesProg
import Derived.Shelf.Strings.SlTrimAscii
import Derived.Shelf.Strings.Count
namespace Go.Proofs
open Go.Shelf
def Tryd.lays160_ren : Go.Shelf.Ren := ⟨fun | 160 => 51 | 232 => 81 | 231 => 80 | 227 => 82 | 234 => 84 | 233 => 83 | 236 => 86 | 235 => 85 | 228 => 113 | 271 => 116 | 151 => 115 | 197 => 114 | 120 => 137 | 152 => 136 | 260 => 135 | 137 => 150 | 119 => 151 | 224 => 119 | 225 => 118 | 217 => 117 | 266 => 138 | n => n, fun | 9 => 9 | 4 => 4 | 3 => 3 | 5 => 5 | 117 => 119 | 116 => 118 | 0 => 0 | 124 => 122 | 21 => 21 | 105 => 147 | 46 => 86 | 119 => 173 | 139 => 176 | 138 => 175 | n => n, fun | 3 => 1 | 4 => 2 | n => n⟩
theorem Tryd.lays160 : Go.Proofs.Lays.n160 Tryd.prog Tryd.lays160_ren := {
  mixed := by kernel_rfl
  f119 := Tryd.func151.trans (congrArg some (by kernel_rfl))
  f120 := Tryd.func137.trans (congrArg some (by kernel_rfl))
  f137 := Tryd.func150.trans (congrArg some (by kernel_rfl))
  f151 := Tryd.func115.trans (congrArg some (by kernel_rfl))
  f152 := Tryd.func136.trans (congrArg some (by kernel_rfl))
  f160 := Tryd.func51.trans (congrArg some (by kernel_rfl))
  f197 := Tryd.func114.trans (congrArg some (by kernel_rfl))
  f217 := Tryd.func117.trans (congrArg some (by kernel_rfl))
  f224 := Tryd.func119.trans (congrArg some (by kernel_rfl))
  f225 := Tryd.func118.trans (congrArg some (by kernel_rfl))
  f227 := Tryd.func82.trans (congrArg some (by kernel_rfl))
  f228 := Tryd.func113.trans (congrArg some (by kernel_rfl))
  f231 := Tryd.func80.trans (congrArg some (by kernel_rfl))
  f232 := Tryd.func81.trans (congrArg some (by kernel_rfl))
  f233 := Tryd.func83.trans (congrArg some (by kernel_rfl))
  f234 := Tryd.func84.trans (congrArg some (by kernel_rfl))
  f235 := Tryd.func85.trans (congrArg some (by kernel_rfl))
  f236 := Tryd.func86.trans (congrArg some (by kernel_rfl))
  f260 := Tryd.func135.trans (congrArg some (by kernel_rfl))
  f266 := Tryd.func138.trans (congrArg some (by kernel_rfl))
  f271 := Tryd.func116.trans (congrArg some (by kernel_rfl))
  t0 := Tryd.underlying0
  a0 := Tryd.isAgg0
  z0 := Tryd.sizeOf0
  v0 := Tryd.zeroValue0
  t3 := Tryd.underlying3
  a3 := Tryd.isAgg3
  z3 := Tryd.sizeOf3
  v3 := Tryd.zeroValue3
  t4 := Tryd.underlying4
  a4 := Tryd.isAgg4
  z4 := Tryd.sizeOf4
  v4 := Tryd.zeroValue4
  t5 := Tryd.underlying5
  a5 := Tryd.isAgg5
  z5 := Tryd.sizeOf5
  v5 := Tryd.zeroValue5
  t9 := Tryd.underlying9
  a9 := Tryd.isAgg9
  z9 := Tryd.sizeOf9
  v9 := Tryd.zeroValue9
  t21 := Tryd.underlying21
  a21 := Tryd.isAgg21
  z21 := Tryd.sizeOf21
  v21 := Tryd.zeroValue21
  t46 := Tryd.underlying86
  a46 := Tryd.isAgg86
  z46 := Tryd.sizeOf86
  v46 := Tryd.zeroValue86
  t105 := Tryd.underlying147
  a105 := Tryd.isAgg147
  z105 := Tryd.sizeOf147
  v105 := Tryd.zeroValue147
  t116 := Tryd.underlying118
  a116 := Tryd.isAgg118
  z116 := Tryd.sizeOf118
  t117 := Tryd.underlying119
  a117 := Tryd.isAgg119
  z117 := Tryd.sizeOf119
  v117 := Tryd.zeroValue119
  t119 := Tryd.underlying173
  a119 := Tryd.isAgg173
  z119 := Tryd.sizeOf173
  t124 := Tryd.underlying122
  a124 := Tryd.isAgg122
  z124 := Tryd.sizeOf122
  v124 := Tryd.zeroValue122
  t138 := Tryd.underlying175
  a138 := Tryd.isAgg175
  z138 := Tryd.sizeOf175
  v138 := Tryd.zeroValue175
  t139 := Tryd.underlying176
  a139 := Tryd.isAgg176
  z139 := Tryd.sizeOf176
  v139 := Tryd.zeroValue176
  g3 := by kernel_rfl
  g4 := by kernel_rfl }
end Go.Proofs
set_option linter.unusedVariables false
set_option linter.unusedSimpArgs false
namespace Go.Proofs.YtinegicenfndkaaDoor
open Go.Sy Go.RowKit
theorem mixed : Tryd.prog.follows .mixedOrders = true := by kernel_rfl
theorem rdKind : Rd Tryd.prog 75 tyKind okKind := by
  refine ⟨fun enc w fuel cs x h hw => ?_⟩
  have hu : Tryd.prog.underlying 75 = some (.struct _) := Tryd.underlying75
  have hl := rd_len hu h (m := 4) (by kernel_rfl)
  obtain ⟨q0, h0, k0⟩ := rd_field hu h hw 0 rfl (rd_int (P := Tryd.prog) (t := 3) (k := .i64) (by kernel_rfl)) (m := 1) (by kernel_rfl) (off := 0) rfl
  have e0 : (cs.drop 0).take 1 = [.int .i64 q0] := h0
  obtain ⟨q1, h1, k1⟩ := rd_field hu h hw 1 rfl (rd_int (P := Tryd.prog) (t := 73) (k := .u64) (by kernel_rfl)) (m := 1) (by kernel_rfl) (off := 1) rfl
  have e1 : (cs.drop 1).take 1 = [.int .u64 q1] := h1
  obtain ⟨q2, h2, k2⟩ := rd_field hu h hw 2 rfl (rd_int (P := Tryd.prog) (t := 73) (k := .u64) (by kernel_rfl)) (m := 1) (by kernel_rfl) (off := 2) rfl
  have e2 : (cs.drop 2).take 1 = [.int .u64 q2] := h2
  obtain ⟨q3, h3, k3⟩ := rd_field hu h hw 3 rfl (rd_int (P := Tryd.prog) (t := 73) (k := .u64) (by kernel_rfl)) (m := 1) (by kernel_rfl) (off := 3) rfl
  have e3 : (cs.drop 3).take 1 = [.int .u64 q3] := h3
  have z : cs.drop 4 = [] := List.drop_eq_nil_of_le (by omega)
  have g3 : cs.drop 3 = [.int .u64 q3] := by rw [show cs.drop 3 = (cs.drop 3).take 1 ++ cs.drop 4 from cut_at cs 3 1, e3, z]; rfl
  have g2 : cs.drop 2 = [.int .u64 q2, .int .u64 q3] := by rw [show cs.drop 2 = (cs.drop 2).take 1 ++ cs.drop 3 from cut_at cs 2 1, e2, g3]; rfl
  have g1 : cs.drop 1 = [.int .u64 q1, .int .u64 q2, .int .u64 q3] := by rw [show cs.drop 1 = (cs.drop 1).take 1 ++ cs.drop 2 from cut_at cs 1 1, e1, g2]; rfl
  have g0 : cs.drop 0 = [.int .i64 q0, .int .u64 q1, .int .u64 q2, .int .u64 q3] := by rw [show cs.drop 0 = (cs.drop 0).take 1 ++ cs.drop 1 from cut_at cs 0 1, e0, g1]; rfl
  refine ⟨⟨q0, q1, q2, q3⟩, ?_, k0, k1, k2, k3⟩
  rw [List.drop_zero] at g0
  exact g0

theorem rdFrame : Rd Tryd.prog 44 tyFrame okFrame := by
  refine ⟨fun enc w fuel cs x h hw => ?_⟩
  have hu : Tryd.prog.underlying 44 = some (.struct _) := Tryd.underlying44
  have hl := rd_len hu h (m := 6) (by kernel_rfl)
  obtain ⟨q0, h0, k0⟩ := rd_field hu h hw 0 rfl (rd_int (P := Tryd.prog) (t := 3) (k := .i64) (by kernel_rfl)) (m := 1) (by kernel_rfl) (off := 0) rfl
  have e0 : (cs.drop 0).take 1 = [.int .i64 q0] := h0
  obtain ⟨q1, h1, k1⟩ := rd_field hu h hw 1 rfl (rd_bool (P := Tryd.prog) (t := 4) (by kernel_rfl)) (m := 1) (by kernel_rfl) (off := 1) rfl
  have e1 : (cs.drop 1).take 1 = [.bool q1] := h1
  obtain ⟨q2, h2, k2⟩ := rd_field hu h hw 2 rfl (rd_bool (P := Tryd.prog) (t := 4) (by kernel_rfl)) (m := 1) (by kernel_rfl) (off := 2) rfl
  have e2 : (cs.drop 2).take 1 = [.bool q2] := h2
  obtain ⟨q3, h3, k3⟩ := rd_field hu h hw 3 rfl (rd_bool (P := Tryd.prog) (t := 4) (by kernel_rfl)) (m := 1) (by kernel_rfl) (off := 3) rfl
  have e3 : (cs.drop 3).take 1 = [.bool q3] := h3
  obtain ⟨q4, h4, k4⟩ := rd_field hu h hw 4 rfl (rd_int (P := Tryd.prog) (t := 3) (k := .i64) (by kernel_rfl)) (m := 1) (by kernel_rfl) (off := 4) rfl
  have e4 : (cs.drop 4).take 1 = [.int .i64 q4] := h4
  obtain ⟨q5, h5, k5⟩ := rd_field hu h hw 5 rfl (rd_slice (P := Tryd.prog) (t := 32) (e := 5) (bytes := 1) (by kernel_rfl) (rd_int (P := Tryd.prog) (t := 5) (k := .u8) (by kernel_rfl))) (m := 1) (by kernel_rfl) (off := 5) rfl
  obtain ⟨ao0, cap0, h5, s0⟩ := h5
  have e5 : (cs.drop 5).take 1 = [.slice ao0 q5.length cap0] := h5
  have z : cs.drop 6 = [] := List.drop_eq_nil_of_le (by omega)
  have g5 : cs.drop 5 = [.slice ao0 q5.length cap0] := by rw [show cs.drop 5 = (cs.drop 5).take 1 ++ cs.drop 6 from cut_at cs 5 1, e5, z]; rfl
  have g4 : cs.drop 4 = [.int .i64 q4, .slice ao0 q5.length cap0] := by rw [show cs.drop 4 = (cs.drop 4).take 1 ++ cs.drop 5 from cut_at cs 4 1, e4, g5]; rfl
  have g3 : cs.drop 3 = [.bool q3, .int .i64 q4, .slice ao0 q5.length cap0] := by rw [show cs.drop 3 = (cs.drop 3).take 1 ++ cs.drop 4 from cut_at cs 3 1, e3, g4]; rfl
  have g2 : cs.drop 2 = [.bool q2, .bool q3, .int .i64 q4, .slice ao0 q5.length cap0] := by rw [show cs.drop 2 = (cs.drop 2).take 1 ++ cs.drop 3 from cut_at cs 2 1, e2, g3]; rfl
  have g1 : cs.drop 1 = [.bool q1, .bool q2, .bool q3, .int .i64 q4, .slice ao0 q5.length cap0] := by rw [show cs.drop 1 = (cs.drop 1).take 1 ++ cs.drop 2 from cut_at cs 1 1, e1, g2]; rfl
  have g0 : cs.drop 0 = [.int .i64 q0, .bool q1, .bool q2, .bool q3, .int .i64 q4, .slice ao0 q5.length cap0] := by rw [show cs.drop 0 = (cs.drop 0).take 1 ++ cs.drop 1 from cut_at cs 0 1, e0, g1]; rfl
  refine ⟨⟨q0, q1, q2, q3, q4, q5⟩, ?_, k0, k1, k2, k3, k4, k5⟩
  rw [List.drop_zero] at g0
  exact ⟨ao0, cap0, g0, s0⟩

theorem rdGuard : Rd Tryd.prog 62 tyGuard okGuard := by
  refine ⟨fun enc w fuel cs x h hw => ?_⟩
  have hu : Tryd.prog.underlying 62 = some (.struct _) := Tryd.underlying62
  have hl := rd_len hu h (m := 4) (by kernel_rfl)
  obtain ⟨q0, h0, k0⟩ := rd_field hu h hw 0 rfl (rd_int (P := Tryd.prog) (t := 3) (k := .i64) (by kernel_rfl)) (m := 1) (by kernel_rfl) (off := 0) rfl
  have e0 : (cs.drop 0).take 1 = [.int .i64 q0] := h0
  obtain ⟨q1, h1, k1⟩ := rd_field hu h hw 1 rfl (rd_int (P := Tryd.prog) (t := 3) (k := .i64) (by kernel_rfl)) (m := 1) (by kernel_rfl) (off := 1) rfl
  have e1 : (cs.drop 1).take 1 = [.int .i64 q1] := h1
  obtain ⟨q2, h2, k2⟩ := rd_field hu h hw 2 rfl (rd_int (P := Tryd.prog) (t := 3) (k := .i64) (by kernel_rfl)) (m := 1) (by kernel_rfl) (off := 2) rfl
  have e2 : (cs.drop 2).take 1 = [.int .i64 q2] := h2
  obtain ⟨q3, h3, k3⟩ := rd_field hu h hw 3 rfl (rd_int (P := Tryd.prog) (t := 3) (k := .i64) (by kernel_rfl)) (m := 1) (by kernel_rfl) (off := 3) rfl
  have e3 : (cs.drop 3).take 1 = [.int .i64 q3] := h3
  have z : cs.drop 4 = [] := List.drop_eq_nil_of_le (by omega)
  have g3 : cs.drop 3 = [.int .i64 q3] := by rw [show cs.drop 3 = (cs.drop 3).take 1 ++ cs.drop 4 from cut_at cs 3 1, e3, z]; rfl
  have g2 : cs.drop 2 = [.int .i64 q2, .int .i64 q3] := by rw [show cs.drop 2 = (cs.drop 2).take 1 ++ cs.drop 3 from cut_at cs 2 1, e2, g3]; rfl
  have g1 : cs.drop 1 = [.int .i64 q1, .int .i64 q2, .int .i64 q3] := by rw [show cs.drop 1 = (cs.drop 1).take 1 ++ cs.drop 2 from cut_at cs 1 1, e1, g2]; rfl
  have g0 : cs.drop 0 = [.int .i64 q0, .int .i64 q1, .int .i64 q2, .int .i64 q3] := by rw [show cs.drop 0 = (cs.drop 0).take 1 ++ cs.drop 1 from cut_at cs 0 1, e0, g1]; rfl
  refine ⟨⟨q0, q1, q2, q3⟩, ?_, k0, k1, k2, k3⟩
  rw [List.drop_zero] at g0
  exact g0

theorem trim_fun (u0 : List UInt8) (u1 : List UInt8) (hpre : u0.length ≤ 9223372036854775807 ∧ u1.length < 4294967281 ∧ u1.all (fun b => decide (b.toNat < 128)) = true) (Z : Fz) (w : World) (hZ : Z.on w) : Calls Tryd.prog 51 #[str u0, str u1] w fun e w' => e = .returned (str (trimS u0 u1)) ∧ Below w.heap.size w w' := by
  have h := Any.strings_Trim_laid Tryd.lays160 (by kernel_rfl) ⟨⟨u0⟩⟩ ⟨⟨u1⟩⟩ w (by show u0.length ≤ _; exact hpre.1) (by show u1.length < _; exact hpre.2.1) (ascii_of_all hpre.2.2)
  exact h

end Go.Proofs.YtinegicenfndkaaDoor
