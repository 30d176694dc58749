/- The walks, made by program: each call does what its pure predicate says. -/
import Derived.Test.YtmbdcehmeiiaoaaGreatDoorRows
import Derived.Test.YtmbdcehmeiiaoaaGreatDoorPZ
import Derived.Shelf.Lay
import Derived.Ground.NamesProg
import Derived.Shelf.Strings.SlTrimAscii
import Derived.Shelf.Strings.Count
namespace Go.Proofs
open Go.Shelf
def Tryz.lays160_ren : Go.Shelf.Ren := ⟨fun | 160 => 65 | 232 => 92 | 231 => 91 | 227 => 93 | 234 => 95 | 233 => 94 | 236 => 97 | 235 => 96 | 228 => 114 | 271 => 117 | 151 => 116 | 197 => 115 | 120 => 137 | 152 => 136 | 260 => 135 | 137 => 147 | 119 => 148 | 224 => 121 | 225 => 120 | 217 => 119 | 266 => 139 | n => n, fun | 9 => 9 | 4 => 4 | 3 => 3 | 5 => 5 | 117 => 126 | 116 => 125 | 0 => 0 | 124 => 129 | 21 => 21 | 105 => 152 | 46 => 75 | 119 => 178 | 139 => 181 | 138 => 180 | n => n, fun | 3 => 2 | 4 => 3 | n => n⟩
theorem Tryz.lays160 : Go.Proofs.Lays.n160 Tryz.prog Tryz.lays160_ren := {
  mixed := by kernel_rfl
  f119 := Tryz.func148.trans (congrArg some (by kernel_rfl))
  f120 := Tryz.func137.trans (congrArg some (by kernel_rfl))
  f137 := Tryz.func147.trans (congrArg some (by kernel_rfl))
  f151 := Tryz.func116.trans (congrArg some (by kernel_rfl))
  f152 := Tryz.func136.trans (congrArg some (by kernel_rfl))
  f160 := Tryz.func65.trans (congrArg some (by kernel_rfl))
  f197 := Tryz.func115.trans (congrArg some (by kernel_rfl))
  f217 := Tryz.func119.trans (congrArg some (by kernel_rfl))
  f224 := Tryz.func121.trans (congrArg some (by kernel_rfl))
  f225 := Tryz.func120.trans (congrArg some (by kernel_rfl))
  f227 := Tryz.func93.trans (congrArg some (by kernel_rfl))
  f228 := Tryz.func114.trans (congrArg some (by kernel_rfl))
  f231 := Tryz.func91.trans (congrArg some (by kernel_rfl))
  f232 := Tryz.func92.trans (congrArg some (by kernel_rfl))
  f233 := Tryz.func94.trans (congrArg some (by kernel_rfl))
  f234 := Tryz.func95.trans (congrArg some (by kernel_rfl))
  f235 := Tryz.func96.trans (congrArg some (by kernel_rfl))
  f236 := Tryz.func97.trans (congrArg some (by kernel_rfl))
  f260 := Tryz.func135.trans (congrArg some (by kernel_rfl))
  f266 := Tryz.func139.trans (congrArg some (by kernel_rfl))
  f271 := Tryz.func117.trans (congrArg some (by kernel_rfl))
  t0 := Tryz.underlying0
  a0 := Tryz.isAgg0
  z0 := Tryz.sizeOf0
  v0 := Tryz.zeroValue0
  t3 := Tryz.underlying3
  a3 := Tryz.isAgg3
  z3 := Tryz.sizeOf3
  v3 := Tryz.zeroValue3
  t4 := Tryz.underlying4
  a4 := Tryz.isAgg4
  z4 := Tryz.sizeOf4
  v4 := Tryz.zeroValue4
  t5 := Tryz.underlying5
  a5 := Tryz.isAgg5
  z5 := Tryz.sizeOf5
  v5 := Tryz.zeroValue5
  t9 := Tryz.underlying9
  a9 := Tryz.isAgg9
  z9 := Tryz.sizeOf9
  v9 := Tryz.zeroValue9
  t21 := Tryz.underlying21
  a21 := Tryz.isAgg21
  z21 := Tryz.sizeOf21
  v21 := Tryz.zeroValue21
  t46 := Tryz.underlying75
  a46 := Tryz.isAgg75
  z46 := Tryz.sizeOf75
  v46 := Tryz.zeroValue75
  t105 := Tryz.underlying152
  a105 := Tryz.isAgg152
  z105 := Tryz.sizeOf152
  v105 := Tryz.zeroValue152
  t116 := Tryz.underlying125
  a116 := Tryz.isAgg125
  z116 := Tryz.sizeOf125
  t117 := Tryz.underlying126
  a117 := Tryz.isAgg126
  z117 := Tryz.sizeOf126
  v117 := Tryz.zeroValue126
  t119 := Tryz.underlying178
  a119 := Tryz.isAgg178
  z119 := Tryz.sizeOf178
  t124 := Tryz.underlying129
  a124 := Tryz.isAgg129
  z124 := Tryz.sizeOf129
  v124 := Tryz.zeroValue129
  t138 := Tryz.underlying180
  a138 := Tryz.isAgg180
  z138 := Tryz.sizeOf180
  v138 := Tryz.zeroValue180
  t139 := Tryz.underlying181
  a139 := Tryz.isAgg181
  z139 := Tryz.sizeOf181
  v139 := Tryz.zeroValue181
  g3 := by kernel_rfl
  g4 := by kernel_rfl }
def Tryz.lays138_ren : Go.Shelf.Ren := ⟨fun | 138 => 42 | 195 => 74 | 218 => 75 | 143 => 76 | 219 => 100 | 217 => 119 | 225 => 120 | 224 => 121 | 267 => 122 | 266 => 139 | 314 => 140 | n => n, fun | 9 => 9 | 3 => 3 | 4 => 4 | 5 => 5 | 0 => 0 | 46 => 75 | 146 => 164 | 51 => 143 | n => n, fun | 1 => 0 | n => n⟩
theorem Tryz.lays138 : Go.Proofs.Lays.n138 Tryz.prog Tryz.lays138_ren := {
  mixed := by kernel_rfl
  f138 := Tryz.func42.trans (congrArg some (by kernel_rfl))
  f143 := Tryz.func76.trans (congrArg some (by kernel_rfl))
  f195 := Tryz.func74.trans (congrArg some (by kernel_rfl))
  f217 := Tryz.func119.trans (congrArg some (by kernel_rfl))
  f218 := Tryz.func75.trans (congrArg some (by kernel_rfl))
  f219 := Tryz.func100.trans (congrArg some (by kernel_rfl))
  f224 := Tryz.func121.trans (congrArg some (by kernel_rfl))
  f225 := Tryz.func120.trans (congrArg some (by kernel_rfl))
  f266 := Tryz.func139.trans (congrArg some (by kernel_rfl))
  f267 := Tryz.func122.trans (congrArg some (by kernel_rfl))
  f314 := Tryz.func140.trans (congrArg some (by kernel_rfl))
  t0 := Tryz.underlying0
  a0 := Tryz.isAgg0
  z0 := Tryz.sizeOf0
  v0 := Tryz.zeroValue0
  t3 := Tryz.underlying3
  a3 := Tryz.isAgg3
  z3 := Tryz.sizeOf3
  v3 := Tryz.zeroValue3
  t4 := Tryz.underlying4
  a4 := Tryz.isAgg4
  z4 := Tryz.sizeOf4
  v4 := Tryz.zeroValue4
  t5 := Tryz.underlying5
  a5 := Tryz.isAgg5
  z5 := Tryz.sizeOf5
  v5 := Tryz.zeroValue5
  t9 := Tryz.underlying9
  a9 := Tryz.isAgg9
  z9 := Tryz.sizeOf9
  v9 := Tryz.zeroValue9
  t46 := Tryz.underlying75
  a46 := Tryz.isAgg75
  z46 := Tryz.sizeOf75
  v46 := Tryz.zeroValue75
  t51 := Tryz.underlying143
  a51 := Tryz.isAgg143
  z51 := Tryz.sizeOf143
  v51 := Tryz.zeroValue143
  t146 := Tryz.underlying164
  a146 := Tryz.isAgg164
  z146 := Tryz.sizeOf164
  v146 := Tryz.zeroValue164
  g1 := by kernel_rfl }
end Go.Proofs
set_option linter.unusedVariables false
set_option linter.unusedSimpArgs false
namespace Go.Proofs.YtmbdcehmeiiaoaaGreatDoor
open Go.Sy Go.RowKit
theorem mixed : Tryz.prog.follows .mixedOrders = true := by kernel_rfl
theorem rdFrame : Rd Tryz.prog 24 tyFrame okFrame := by
  refine ⟨fun enc w fuel cs x h hw => ?_⟩
  have hu : Tryz.prog.underlying 24 = some (.struct _) := Tryz.underlying24
  have hl := rd_len hu h (m := 6) (by kernel_rfl)
  obtain ⟨q0, h0, k0⟩ := rd_field hu h hw 0 rfl (rd_int (P := Tryz.prog) (t := 3) (k := .i64) (by kernel_rfl)) (m := 1) (by kernel_rfl) (off := 0) rfl
  have e0 : (cs.drop 0).take 1 = [.int .i64 q0] := h0
  obtain ⟨q1, h1, k1⟩ := rd_field hu h hw 1 rfl (rd_bool (P := Tryz.prog) (t := 4) (by kernel_rfl)) (m := 1) (by kernel_rfl) (off := 1) rfl
  have e1 : (cs.drop 1).take 1 = [.bool q1] := h1
  obtain ⟨q2, h2, k2⟩ := rd_field hu h hw 2 rfl (rd_bool (P := Tryz.prog) (t := 4) (by kernel_rfl)) (m := 1) (by kernel_rfl) (off := 2) rfl
  have e2 : (cs.drop 2).take 1 = [.bool q2] := h2
  obtain ⟨q3, h3, k3⟩ := rd_field hu h hw 3 rfl (rd_bool (P := Tryz.prog) (t := 4) (by kernel_rfl)) (m := 1) (by kernel_rfl) (off := 3) rfl
  have e3 : (cs.drop 3).take 1 = [.bool q3] := h3
  obtain ⟨q4, h4, k4⟩ := rd_field hu h hw 4 rfl (rd_int (P := Tryz.prog) (t := 3) (k := .i64) (by kernel_rfl)) (m := 1) (by kernel_rfl) (off := 4) rfl
  have e4 : (cs.drop 4).take 1 = [.int .i64 q4] := h4
  obtain ⟨q5, h5, k5⟩ := rd_field hu h hw 5 rfl (rd_slice (P := Tryz.prog) (t := 22) (e := 5) (bytes := 1) (by kernel_rfl) (rd_int (P := Tryz.prog) (t := 5) (k := .u8) (by kernel_rfl))) (m := 1) (by kernel_rfl) (off := 5) rfl
  obtain ⟨ao0, cap0, h5, s0⟩ := h5
  have e5 : (cs.drop 5).take 1 = [.slice ao0 q5.length cap0] := h5
  have z : cs.drop 6 = [] := List.drop_eq_nil_of_le (by omega)
  have g5 : cs.drop 5 = [.slice ao0 q5.length cap0] := by rw [show cs.drop 5 = (cs.drop 5).take 1 ++ cs.drop 6 from cut_at cs 5 1, e5, z]; rfl
  have g4 : cs.drop 4 = [.int .i64 q4, .slice ao0 q5.length cap0] := by rw [show cs.drop 4 = (cs.drop 4).take 1 ++ cs.drop 5 from cut_at cs 4 1, e4, g5]; rfl
  have g3 : cs.drop 3 = [.bool q3, .int .i64 q4, .slice ao0 q5.length cap0] := by rw [show cs.drop 3 = (cs.drop 3).take 1 ++ cs.drop 4 from cut_at cs 3 1, e3, g4]; rfl
  have g2 : cs.drop 2 = [.bool q2, .bool q3, .int .i64 q4, .slice ao0 q5.length cap0] := by rw [show cs.drop 2 = (cs.drop 2).take 1 ++ cs.drop 3 from cut_at cs 2 1, e2, g3]; rfl
  have g1 : cs.drop 1 = [.bool q1, .bool q2, .bool q3, .int .i64 q4, .slice ao0 q5.length cap0] := by rw [show cs.drop 1 = (cs.drop 1).take 1 ++ cs.drop 2 from cut_at cs 1 1, e1, g2]; rfl
  have g0 : cs.drop 0 = [.int .i64 q0, .bool q1, .bool q2, .bool q3, .int .i64 q4, .slice ao0 q5.length cap0] := by rw [show cs.drop 0 = (cs.drop 0).take 1 ++ cs.drop 1 from cut_at cs 0 1, e0, g1]; rfl
  refine ⟨⟨q0, q1, q2, q3, q4, q5⟩, ?_, k0, k1, k2, k3, k4, k5⟩
  rw [List.drop_zero] at g0
  exact ⟨ao0, cap0, g0, s0⟩

theorem rdKind : Rd Tryz.prog 100 tyKind okKind := by
  refine ⟨fun enc w fuel cs x h hw => ?_⟩
  have hu : Tryz.prog.underlying 100 = some (.struct _) := Tryz.underlying100
  have hl := rd_len hu h (m := 4) (by kernel_rfl)
  obtain ⟨q0, h0, k0⟩ := rd_field hu h hw 0 rfl (rd_int (P := Tryz.prog) (t := 3) (k := .i64) (by kernel_rfl)) (m := 1) (by kernel_rfl) (off := 0) rfl
  have e0 : (cs.drop 0).take 1 = [.int .i64 q0] := h0
  obtain ⟨q1, h1, k1⟩ := rd_field hu h hw 1 rfl (rd_int (P := Tryz.prog) (t := 93) (k := .u64) (by kernel_rfl)) (m := 1) (by kernel_rfl) (off := 1) rfl
  have e1 : (cs.drop 1).take 1 = [.int .u64 q1] := h1
  obtain ⟨q2, h2, k2⟩ := rd_field hu h hw 2 rfl (rd_int (P := Tryz.prog) (t := 93) (k := .u64) (by kernel_rfl)) (m := 1) (by kernel_rfl) (off := 2) rfl
  have e2 : (cs.drop 2).take 1 = [.int .u64 q2] := h2
  obtain ⟨q3, h3, k3⟩ := rd_field hu h hw 3 rfl (rd_int (P := Tryz.prog) (t := 93) (k := .u64) (by kernel_rfl)) (m := 1) (by kernel_rfl) (off := 3) rfl
  have e3 : (cs.drop 3).take 1 = [.int .u64 q3] := h3
  have z : cs.drop 4 = [] := List.drop_eq_nil_of_le (by omega)
  have g3 : cs.drop 3 = [.int .u64 q3] := by rw [show cs.drop 3 = (cs.drop 3).take 1 ++ cs.drop 4 from cut_at cs 3 1, e3, z]; rfl
  have g2 : cs.drop 2 = [.int .u64 q2, .int .u64 q3] := by rw [show cs.drop 2 = (cs.drop 2).take 1 ++ cs.drop 3 from cut_at cs 2 1, e2, g3]; rfl
  have g1 : cs.drop 1 = [.int .u64 q1, .int .u64 q2, .int .u64 q3] := by rw [show cs.drop 1 = (cs.drop 1).take 1 ++ cs.drop 2 from cut_at cs 1 1, e1, g2]; rfl
  have g0 : cs.drop 0 = [.int .i64 q0, .int .u64 q1, .int .u64 q2, .int .u64 q3] := by rw [show cs.drop 0 = (cs.drop 0).take 1 ++ cs.drop 1 from cut_at cs 0 1, e0, g1]; rfl
  refine ⟨⟨q0, q1, q2, q3⟩, ?_, k0, k1, k2, k3⟩
  rw [List.drop_zero] at g0
  exact g0

theorem rdCounter : Rd Tryz.prog 57 tyCounter okCounter := by
  refine ⟨fun enc w fuel cs x h hw => ?_⟩
  have hu : Tryz.prog.underlying 57 = some (.struct _) := Tryz.underlying57
  have hl := rd_len hu h (m := 2) (by kernel_rfl)
  obtain ⟨q0, h0, k0⟩ := rd_field hu h hw 0 rfl (rd_int (P := Tryz.prog) (t := 5) (k := .u8) (by kernel_rfl)) (m := 1) (by kernel_rfl) (off := 0) rfl
  have e0 : (cs.drop 0).take 1 = [.int .u8 q0] := h0
  obtain ⟨q1, h1, k1⟩ := rd_field hu h hw 1 rfl (rd_int (P := Tryz.prog) (t := 3) (k := .i64) (by kernel_rfl)) (m := 1) (by kernel_rfl) (off := 1) rfl
  have e1 : (cs.drop 1).take 1 = [.int .i64 q1] := h1
  have z : cs.drop 2 = [] := List.drop_eq_nil_of_le (by omega)
  have g1 : cs.drop 1 = [.int .i64 q1] := by rw [show cs.drop 1 = (cs.drop 1).take 1 ++ cs.drop 2 from cut_at cs 1 1, e1, z]; rfl
  have g0 : cs.drop 0 = [.int .u8 q0, .int .i64 q1] := by rw [show cs.drop 0 = (cs.drop 0).take 1 ++ cs.drop 1 from cut_at cs 0 1, e0, g1]; rfl
  refine ⟨⟨q0, q1⟩, ?_, k0, k1⟩
  rw [List.drop_zero] at g0
  exact g0

theorem rdReader : Rd Tryz.prog 59 tyReader okReader := by
  refine ⟨fun enc w fuel cs x h hw => ?_⟩
  have hu : Tryz.prog.underlying 59 = some (.struct _) := Tryz.underlying59
  have hl := rd_len hu h (m := 5) (by kernel_rfl)
  obtain ⟨q0, h0, k0⟩ := rd_field hu h hw 0 rfl (rd_str (P := Tryz.prog) (t := 9) (by kernel_rfl)) (m := 1) (by kernel_rfl) (off := 0) rfl
  have e0 : (cs.drop 0).take 1 = [str q0] := h0
  obtain ⟨q1, h1, k1⟩ := rd_field hu h hw 1 rfl (rd_int (P := Tryz.prog) (t := 3) (k := .i64) (by kernel_rfl)) (m := 1) (by kernel_rfl) (off := 1) rfl
  have e1 : (cs.drop 1).take 1 = [.int .i64 q1] := h1
  obtain ⟨q2, h2, k2⟩ := rd_field hu h hw 2 rfl (rd_int (P := Tryz.prog) (t := 25) (k := .i64) (by kernel_rfl)) (m := 1) (by kernel_rfl) (off := 2) rfl
  have e2 : (cs.drop 2).take 1 = [.int .i64 q2] := h2
  obtain ⟨q3, h3, k3⟩ := rd_field hu h hw 3 rfl rdCounter (m := 2) (by kernel_rfl) (off := 3) rfl
  have e3 : (cs.drop 3).take 2 = [.int .u8 q3.last, .int .i64 q3.n] := h3
  have z : cs.drop 5 = [] := List.drop_eq_nil_of_le (by omega)
  have g3 : cs.drop 3 = [.int .u8 q3.last, .int .i64 q3.n] := by rw [show cs.drop 3 = (cs.drop 3).take 2 ++ cs.drop 5 from cut_at cs 3 2, e3, z]; rfl
  have g2 : cs.drop 2 = [.int .i64 q2, .int .u8 q3.last, .int .i64 q3.n] := by rw [show cs.drop 2 = (cs.drop 2).take 1 ++ cs.drop 3 from cut_at cs 2 1, e2, g3]; rfl
  have g1 : cs.drop 1 = [.int .i64 q1, .int .i64 q2, .int .u8 q3.last, .int .i64 q3.n] := by rw [show cs.drop 1 = (cs.drop 1).take 1 ++ cs.drop 2 from cut_at cs 1 1, e1, g2]; rfl
  have g0 : cs.drop 0 = [str q0, .int .i64 q1, .int .i64 q2, .int .u8 q3.last, .int .i64 q3.n] := by rw [show cs.drop 0 = (cs.drop 0).take 1 ++ cs.drop 1 from cut_at cs 0 1, e0, g1]; rfl
  refine ⟨⟨q0, q1, q2, q3⟩, ?_, k0, k1, k2, k3⟩
  rw [List.drop_zero] at g0
  exact g0

theorem rdFReader : Rd Tryz.prog 61 tyFReader okFReader := by
  refine ⟨fun enc w fuel cs x h hw => ?_⟩
  have hu : Tryz.prog.underlying 61 = some (.struct _) := Tryz.underlying61
  have hl := rd_len hu h (m := 11) (by kernel_rfl)
  obtain ⟨q0, h0, k0⟩ := rd_field hu h hw 0 rfl rdReader (m := 5) (by kernel_rfl) (off := 0) rfl
  have e0 : (cs.drop 0).take 5 = [str q0.Row, .int .i64 q0.At, .int .i64 q0.Code, .int .u8 q0.c.last, .int .i64 q0.c.n] := h0
  obtain ⟨q1, h1, k1⟩ := rd_field hu h hw 1 rfl rdFrame (m := 6) (by kernel_rfl) (off := 5) rfl
  obtain ⟨ao0, cap0, h1, s0⟩ := h1
  have e1 : (cs.drop 5).take 6 = [.int .i64 q1.ID, .bool q1.Long, .bool q1.Fast, .bool q1.Remote, .int .i64 q1.Size, .slice ao0 q1.Data.length cap0] := h1
  have z : cs.drop 11 = [] := List.drop_eq_nil_of_le (by omega)
  have g1 : cs.drop 5 = [.int .i64 q1.ID, .bool q1.Long, .bool q1.Fast, .bool q1.Remote, .int .i64 q1.Size, .slice ao0 q1.Data.length cap0] := by rw [show cs.drop 5 = (cs.drop 5).take 6 ++ cs.drop 11 from cut_at cs 5 6, e1, z]; rfl
  have g0 : cs.drop 0 = [str q0.Row, .int .i64 q0.At, .int .i64 q0.Code, .int .u8 q0.c.last, .int .i64 q0.c.n, .int .i64 q1.ID, .bool q1.Long, .bool q1.Fast, .bool q1.Remote, .int .i64 q1.Size, .slice ao0 q1.Data.length cap0] := by rw [show cs.drop 0 = (cs.drop 0).take 5 ++ cs.drop 5 from cut_at cs 0 5, e0, g1]; rfl
  refine ⟨⟨q0, q1⟩, ?_, k0, k1⟩
  rw [List.drop_zero] at g0
  exact ⟨ao0, cap0, g0, s0⟩

theorem rdSender : Rd Tryz.prog 89 tySender okSender := by
  refine ⟨fun enc w fuel cs x h hw => ?_⟩
  have hu : Tryz.prog.underlying 89 = some (.struct _) := Tryz.underlying89
  have hl := rd_len hu h (m := 2) (by kernel_rfl)
  obtain ⟨q0, h0, k0⟩ := rd_field hu h hw 0 rfl (rd_str (P := Tryz.prog) (t := 9) (by kernel_rfl)) (m := 1) (by kernel_rfl) (off := 0) rfl
  have e0 : (cs.drop 0).take 1 = [str q0] := h0
  obtain ⟨q1, h1, k1⟩ := rd_field hu h hw 1 rfl (rd_int (P := Tryz.prog) (t := 3) (k := .i64) (by kernel_rfl)) (m := 1) (by kernel_rfl) (off := 1) rfl
  have e1 : (cs.drop 1).take 1 = [.int .i64 q1] := h1
  have z : cs.drop 2 = [] := List.drop_eq_nil_of_le (by omega)
  have g1 : cs.drop 1 = [.int .i64 q1] := by rw [show cs.drop 1 = (cs.drop 1).take 1 ++ cs.drop 2 from cut_at cs 1 1, e1, z]; rfl
  have g0 : cs.drop 0 = [str q0, .int .i64 q1] := by rw [show cs.drop 0 = (cs.drop 0).take 1 ++ cs.drop 1 from cut_at cs 0 1, e0, g1]; rfl
  refine ⟨⟨q0, q1⟩, ?_, k0, k1⟩
  rw [List.drop_zero] at g0
  exact g0

theorem trim_fun (u0 : List UInt8) (u1 : List UInt8) (hpre : u0.length ≤ 9223372036854775807 ∧ u1.length < 4294967281 ∧ u1.all (fun b => decide (b.toNat < 128)) = true) (Z : Fz) (w : World) (hZ : Z.on w) : Calls Tryz.prog 65 #[str u0, str u1] w fun e w' => e = .returned (str (trimS u0 u1)) ∧ Below w.heap.size w w' := by
  have h := Any.strings_Trim_laid Tryz.lays160 (by kernel_rfl) ⟨⟨u0⟩⟩ ⟨⟨u1⟩⟩ w (by show u0.length ≤ _; exact hpre.1) (by show u1.length < _; exact hpre.2.1) (ascii_of_all hpre.2.2)
  exact h

theorem count1_fun (u0 : List UInt8) (u1 : List UInt8) (hpre : u1.length = 1) (Z : Fz) (w : World) (hZ : Z.on w) : Calls Tryz.prog 42 #[str u0, str u1] w fun e w' => e = .returned (.int .i64 (count1S u0 u1)) ∧ Below w.heap.size w w' := by
  obtain ⟨c, rfl⟩ : ∃ c, u1 = [c] := by
    match u1, hpre with
    | [c], _ => exact ⟨c, rfl⟩
  exact (Any.strings_Count_one Tryz.lays138 ⟨⟨u0⟩⟩ c w).mono fun _ _ ⟨h1, h2⟩ => ⟨h1, h2 ▸ Below.refl _ _⟩

end Go.Proofs.YtmbdcehmeiiaoaaGreatDoor
