/- The walks, made by program: each call does what its pure predicate says. -/
import Derived.Test.YtmbdcehmeiiaoaaDoorRows
import Derived.Test.YtmbdcehmeiiaoaaDoorPZ
import Derived.Shelf.Lay
import Derived.Ground.NamesProg
import Derived.Shelf.Strings.SlTrimAscii
import Derived.Shelf.Strings.Count
namespace Go.Proofs
open Go.Shelf
def Tryd.lays160_ren : Go.Shelf.Ren := ⟨fun | 160 => 48 | 232 => 66 | 231 => 65 | 227 => 67 | 234 => 69 | 233 => 68 | 236 => 71 | 235 => 70 | 228 => 79 | 271 => 82 | 151 => 81 | 197 => 80 | 120 => 91 | 152 => 90 | 260 => 89 | 137 => 104 | 119 => 105 | 224 => 102 | 225 => 101 | 217 => 100 | 266 => 112 | n => n, fun | 9 => 9 | 4 => 4 | 3 => 3 | 5 => 5 | 117 => 100 | 116 => 99 | 0 => 0 | 124 => 103 | 21 => 21 | 105 => 118 | 46 => 91 | 119 => 139 | 139 => 142 | 138 => 141 | n => n, fun | 3 => 1 | 4 => 2 | n => n⟩
theorem Tryd.lays160 : Go.Proofs.Lays.n160 Tryd.prog Tryd.lays160_ren := {
  mixed := by kernel_rfl
  f119 := Tryd.func105.trans (congrArg some (by kernel_rfl))
  f120 := Tryd.func91.trans (congrArg some (by kernel_rfl))
  f137 := Tryd.func104.trans (congrArg some (by kernel_rfl))
  f151 := Tryd.func81.trans (congrArg some (by kernel_rfl))
  f152 := Tryd.func90.trans (congrArg some (by kernel_rfl))
  f160 := Tryd.func48.trans (congrArg some (by kernel_rfl))
  f197 := Tryd.func80.trans (congrArg some (by kernel_rfl))
  f217 := Tryd.func100.trans (congrArg some (by kernel_rfl))
  f224 := Tryd.func102.trans (congrArg some (by kernel_rfl))
  f225 := Tryd.func101.trans (congrArg some (by kernel_rfl))
  f227 := Tryd.func67.trans (congrArg some (by kernel_rfl))
  f228 := Tryd.func79.trans (congrArg some (by kernel_rfl))
  f231 := Tryd.func65.trans (congrArg some (by kernel_rfl))
  f232 := Tryd.func66.trans (congrArg some (by kernel_rfl))
  f233 := Tryd.func68.trans (congrArg some (by kernel_rfl))
  f234 := Tryd.func69.trans (congrArg some (by kernel_rfl))
  f235 := Tryd.func70.trans (congrArg some (by kernel_rfl))
  f236 := Tryd.func71.trans (congrArg some (by kernel_rfl))
  f260 := Tryd.func89.trans (congrArg some (by kernel_rfl))
  f266 := Tryd.func112.trans (congrArg some (by kernel_rfl))
  f271 := Tryd.func82.trans (congrArg some (by kernel_rfl))
  t0 := Tryd.underlying0
  a0 := Tryd.isAgg0
  z0 := Tryd.sizeOf0
  v0 := Tryd.zeroValue0
  t3 := Tryd.underlying3
  a3 := Tryd.isAgg3
  z3 := Tryd.sizeOf3
  v3 := Tryd.zeroValue3
  t4 := Tryd.underlying4
  a4 := Tryd.isAgg4
  z4 := Tryd.sizeOf4
  v4 := Tryd.zeroValue4
  t5 := Tryd.underlying5
  a5 := Tryd.isAgg5
  z5 := Tryd.sizeOf5
  v5 := Tryd.zeroValue5
  t9 := Tryd.underlying9
  a9 := Tryd.isAgg9
  z9 := Tryd.sizeOf9
  v9 := Tryd.zeroValue9
  t21 := Tryd.underlying21
  a21 := Tryd.isAgg21
  z21 := Tryd.sizeOf21
  v21 := Tryd.zeroValue21
  t46 := Tryd.underlying91
  a46 := Tryd.isAgg91
  z46 := Tryd.sizeOf91
  v46 := Tryd.zeroValue91
  t105 := Tryd.underlying118
  a105 := Tryd.isAgg118
  z105 := Tryd.sizeOf118
  v105 := Tryd.zeroValue118
  t116 := Tryd.underlying99
  a116 := Tryd.isAgg99
  z116 := Tryd.sizeOf99
  t117 := Tryd.underlying100
  a117 := Tryd.isAgg100
  z117 := Tryd.sizeOf100
  v117 := Tryd.zeroValue100
  t119 := Tryd.underlying139
  a119 := Tryd.isAgg139
  z119 := Tryd.sizeOf139
  t124 := Tryd.underlying103
  a124 := Tryd.isAgg103
  z124 := Tryd.sizeOf103
  v124 := Tryd.zeroValue103
  t138 := Tryd.underlying141
  a138 := Tryd.isAgg141
  z138 := Tryd.sizeOf141
  v138 := Tryd.zeroValue141
  t139 := Tryd.underlying142
  a139 := Tryd.isAgg142
  z139 := Tryd.sizeOf142
  v139 := Tryd.zeroValue142
  g3 := by kernel_rfl
  g4 := by kernel_rfl }
def Tryd.lays138_ren : Go.Shelf.Ren := ⟨fun | 138 => 61 | 195 => 76 | 218 => 77 | 143 => 78 | 219 => 88 | 217 => 100 | 225 => 101 | 224 => 102 | 267 => 103 | 266 => 112 | 314 => 113 | n => n, fun | 9 => 9 | 3 => 3 | 4 => 4 | 5 => 5 | 0 => 0 | 46 => 91 | 146 => 133 | 51 => 132 | n => n, fun | 1 => 0 | n => n⟩
theorem Tryd.lays138 : Go.Proofs.Lays.n138 Tryd.prog Tryd.lays138_ren := {
  mixed := by kernel_rfl
  f138 := Tryd.func61.trans (congrArg some (by kernel_rfl))
  f143 := Tryd.func78.trans (congrArg some (by kernel_rfl))
  f195 := Tryd.func76.trans (congrArg some (by kernel_rfl))
  f217 := Tryd.func100.trans (congrArg some (by kernel_rfl))
  f218 := Tryd.func77.trans (congrArg some (by kernel_rfl))
  f219 := Tryd.func88.trans (congrArg some (by kernel_rfl))
  f224 := Tryd.func102.trans (congrArg some (by kernel_rfl))
  f225 := Tryd.func101.trans (congrArg some (by kernel_rfl))
  f266 := Tryd.func112.trans (congrArg some (by kernel_rfl))
  f267 := Tryd.func103.trans (congrArg some (by kernel_rfl))
  f314 := Tryd.func113.trans (congrArg some (by kernel_rfl))
  t0 := Tryd.underlying0
  a0 := Tryd.isAgg0
  z0 := Tryd.sizeOf0
  v0 := Tryd.zeroValue0
  t3 := Tryd.underlying3
  a3 := Tryd.isAgg3
  z3 := Tryd.sizeOf3
  v3 := Tryd.zeroValue3
  t4 := Tryd.underlying4
  a4 := Tryd.isAgg4
  z4 := Tryd.sizeOf4
  v4 := Tryd.zeroValue4
  t5 := Tryd.underlying5
  a5 := Tryd.isAgg5
  z5 := Tryd.sizeOf5
  v5 := Tryd.zeroValue5
  t9 := Tryd.underlying9
  a9 := Tryd.isAgg9
  z9 := Tryd.sizeOf9
  v9 := Tryd.zeroValue9
  t46 := Tryd.underlying91
  a46 := Tryd.isAgg91
  z46 := Tryd.sizeOf91
  v46 := Tryd.zeroValue91
  t51 := Tryd.underlying132
  a51 := Tryd.isAgg132
  z51 := Tryd.sizeOf132
  v51 := Tryd.zeroValue132
  t146 := Tryd.underlying133
  a146 := Tryd.isAgg133
  z146 := Tryd.sizeOf133
  v146 := Tryd.zeroValue133
  g1 := by kernel_rfl }
end Go.Proofs
set_option linter.unusedVariables false
set_option linter.unusedSimpArgs false
namespace Go.Proofs.YtmbdcehmeiiaoaaDoor
open Go.Sy Go.RowKit
theorem mixed : Tryd.prog.follows .mixedOrders = true := by kernel_rfl
theorem rdFrame : Rd Tryd.prog 24 tyFrame okFrame := by
  refine ⟨fun enc w fuel cs x h hw => ?_⟩
  have hu : Tryd.prog.underlying 24 = some (.struct _) := Tryd.underlying24
  have hl := rd_len hu h (m := 6) (by kernel_rfl)
  obtain ⟨q0, h0, k0⟩ := rd_field hu h hw 0 rfl (rd_int (P := Tryd.prog) (t := 3) (k := .i64) (by kernel_rfl)) (m := 1) (by kernel_rfl) (off := 0) rfl
  have e0 : (cs.drop 0).take 1 = [.int .i64 q0] := h0
  obtain ⟨q1, h1, k1⟩ := rd_field hu h hw 1 rfl (rd_bool (P := Tryd.prog) (t := 4) (by kernel_rfl)) (m := 1) (by kernel_rfl) (off := 1) rfl
  have e1 : (cs.drop 1).take 1 = [.bool q1] := h1
  obtain ⟨q2, h2, k2⟩ := rd_field hu h hw 2 rfl (rd_bool (P := Tryd.prog) (t := 4) (by kernel_rfl)) (m := 1) (by kernel_rfl) (off := 2) rfl
  have e2 : (cs.drop 2).take 1 = [.bool q2] := h2
  obtain ⟨q3, h3, k3⟩ := rd_field hu h hw 3 rfl (rd_bool (P := Tryd.prog) (t := 4) (by kernel_rfl)) (m := 1) (by kernel_rfl) (off := 3) rfl
  have e3 : (cs.drop 3).take 1 = [.bool q3] := h3
  obtain ⟨q4, h4, k4⟩ := rd_field hu h hw 4 rfl (rd_int (P := Tryd.prog) (t := 3) (k := .i64) (by kernel_rfl)) (m := 1) (by kernel_rfl) (off := 4) rfl
  have e4 : (cs.drop 4).take 1 = [.int .i64 q4] := h4
  obtain ⟨q5, h5, k5⟩ := rd_field hu h hw 5 rfl (rd_slice (P := Tryd.prog) (t := 22) (e := 5) (bytes := 1) (by kernel_rfl) (rd_int (P := Tryd.prog) (t := 5) (k := .u8) (by kernel_rfl))) (m := 1) (by kernel_rfl) (off := 5) rfl
  obtain ⟨ao0, cap0, h5, s0⟩ := h5
  have e5 : (cs.drop 5).take 1 = [.slice ao0 q5.length cap0] := h5
  have z : cs.drop 6 = [] := List.drop_eq_nil_of_le (by omega)
  have g5 : cs.drop 5 = [.slice ao0 q5.length cap0] := by rw [show cs.drop 5 = (cs.drop 5).take 1 ++ cs.drop 6 from cut_at cs 5 1, e5, z]; rfl
  have g4 : cs.drop 4 = [.int .i64 q4, .slice ao0 q5.length cap0] := by rw [show cs.drop 4 = (cs.drop 4).take 1 ++ cs.drop 5 from cut_at cs 4 1, e4, g5]; rfl
  have g3 : cs.drop 3 = [.bool q3, .int .i64 q4, .slice ao0 q5.length cap0] := by rw [show cs.drop 3 = (cs.drop 3).take 1 ++ cs.drop 4 from cut_at cs 3 1, e3, g4]; rfl
  have g2 : cs.drop 2 = [.bool q2, .bool q3, .int .i64 q4, .slice ao0 q5.length cap0] := by rw [show cs.drop 2 = (cs.drop 2).take 1 ++ cs.drop 3 from cut_at cs 2 1, e2, g3]; rfl
  have g1 : cs.drop 1 = [.bool q1, .bool q2, .bool q3, .int .i64 q4, .slice ao0 q5.length cap0] := by rw [show cs.drop 1 = (cs.drop 1).take 1 ++ cs.drop 2 from cut_at cs 1 1, e1, g2]; rfl
  have g0 : cs.drop 0 = [.int .i64 q0, .bool q1, .bool q2, .bool q3, .int .i64 q4, .slice ao0 q5.length cap0] := by rw [show cs.drop 0 = (cs.drop 0).take 1 ++ cs.drop 1 from cut_at cs 0 1, e0, g1]; rfl
  refine ⟨⟨q0, q1, q2, q3, q4, q5⟩, ?_, k0, k1, k2, k3, k4, k5⟩
  rw [List.drop_zero] at g0
  exact ⟨ao0, cap0, g0, s0⟩

theorem rdKind : Rd Tryd.prog 85 tyKind okKind := by
  refine ⟨fun enc w fuel cs x h hw => ?_⟩
  have hu : Tryd.prog.underlying 85 = some (.struct _) := Tryd.underlying85
  have hl := rd_len hu h (m := 4) (by kernel_rfl)
  obtain ⟨q0, h0, k0⟩ := rd_field hu h hw 0 rfl (rd_int (P := Tryd.prog) (t := 3) (k := .i64) (by kernel_rfl)) (m := 1) (by kernel_rfl) (off := 0) rfl
  have e0 : (cs.drop 0).take 1 = [.int .i64 q0] := h0
  obtain ⟨q1, h1, k1⟩ := rd_field hu h hw 1 rfl (rd_int (P := Tryd.prog) (t := 83) (k := .u64) (by kernel_rfl)) (m := 1) (by kernel_rfl) (off := 1) rfl
  have e1 : (cs.drop 1).take 1 = [.int .u64 q1] := h1
  obtain ⟨q2, h2, k2⟩ := rd_field hu h hw 2 rfl (rd_int (P := Tryd.prog) (t := 83) (k := .u64) (by kernel_rfl)) (m := 1) (by kernel_rfl) (off := 2) rfl
  have e2 : (cs.drop 2).take 1 = [.int .u64 q2] := h2
  obtain ⟨q3, h3, k3⟩ := rd_field hu h hw 3 rfl (rd_int (P := Tryd.prog) (t := 83) (k := .u64) (by kernel_rfl)) (m := 1) (by kernel_rfl) (off := 3) rfl
  have e3 : (cs.drop 3).take 1 = [.int .u64 q3] := h3
  have z : cs.drop 4 = [] := List.drop_eq_nil_of_le (by omega)
  have g3 : cs.drop 3 = [.int .u64 q3] := by rw [show cs.drop 3 = (cs.drop 3).take 1 ++ cs.drop 4 from cut_at cs 3 1, e3, z]; rfl
  have g2 : cs.drop 2 = [.int .u64 q2, .int .u64 q3] := by rw [show cs.drop 2 = (cs.drop 2).take 1 ++ cs.drop 3 from cut_at cs 2 1, e2, g3]; rfl
  have g1 : cs.drop 1 = [.int .u64 q1, .int .u64 q2, .int .u64 q3] := by rw [show cs.drop 1 = (cs.drop 1).take 1 ++ cs.drop 2 from cut_at cs 1 1, e1, g2]; rfl
  have g0 : cs.drop 0 = [.int .i64 q0, .int .u64 q1, .int .u64 q2, .int .u64 q3] := by rw [show cs.drop 0 = (cs.drop 0).take 1 ++ cs.drop 1 from cut_at cs 0 1, e0, g1]; rfl
  refine ⟨⟨q0, q1, q2, q3⟩, ?_, k0, k1, k2, k3⟩
  rw [List.drop_zero] at g0
  exact g0

theorem rdCounter : Rd Tryd.prog 60 tyCounter okCounter := by
  refine ⟨fun enc w fuel cs x h hw => ?_⟩
  have hu : Tryd.prog.underlying 60 = some (.struct _) := Tryd.underlying60
  have hl := rd_len hu h (m := 2) (by kernel_rfl)
  obtain ⟨q0, h0, k0⟩ := rd_field hu h hw 0 rfl (rd_int (P := Tryd.prog) (t := 5) (k := .u8) (by kernel_rfl)) (m := 1) (by kernel_rfl) (off := 0) rfl
  have e0 : (cs.drop 0).take 1 = [.int .u8 q0] := h0
  obtain ⟨q1, h1, k1⟩ := rd_field hu h hw 1 rfl (rd_int (P := Tryd.prog) (t := 3) (k := .i64) (by kernel_rfl)) (m := 1) (by kernel_rfl) (off := 1) rfl
  have e1 : (cs.drop 1).take 1 = [.int .i64 q1] := h1
  have z : cs.drop 2 = [] := List.drop_eq_nil_of_le (by omega)
  have g1 : cs.drop 1 = [.int .i64 q1] := by rw [show cs.drop 1 = (cs.drop 1).take 1 ++ cs.drop 2 from cut_at cs 1 1, e1, z]; rfl
  have g0 : cs.drop 0 = [.int .u8 q0, .int .i64 q1] := by rw [show cs.drop 0 = (cs.drop 0).take 1 ++ cs.drop 1 from cut_at cs 0 1, e0, g1]; rfl
  refine ⟨⟨q0, q1⟩, ?_, k0, k1⟩
  rw [List.drop_zero] at g0
  exact g0

theorem rdReader : Rd Tryd.prog 62 tyReader okReader := by
  refine ⟨fun enc w fuel cs x h hw => ?_⟩
  have hu : Tryd.prog.underlying 62 = some (.struct _) := Tryd.underlying62
  have hl := rd_len hu h (m := 5) (by kernel_rfl)
  obtain ⟨q0, h0, k0⟩ := rd_field hu h hw 0 rfl (rd_str (P := Tryd.prog) (t := 9) (by kernel_rfl)) (m := 1) (by kernel_rfl) (off := 0) rfl
  have e0 : (cs.drop 0).take 1 = [str q0] := h0
  obtain ⟨q1, h1, k1⟩ := rd_field hu h hw 1 rfl (rd_int (P := Tryd.prog) (t := 3) (k := .i64) (by kernel_rfl)) (m := 1) (by kernel_rfl) (off := 1) rfl
  have e1 : (cs.drop 1).take 1 = [.int .i64 q1] := h1
  obtain ⟨q2, h2, k2⟩ := rd_field hu h hw 2 rfl (rd_int (P := Tryd.prog) (t := 25) (k := .i64) (by kernel_rfl)) (m := 1) (by kernel_rfl) (off := 2) rfl
  have e2 : (cs.drop 2).take 1 = [.int .i64 q2] := h2
  obtain ⟨q3, h3, k3⟩ := rd_field hu h hw 3 rfl rdCounter (m := 2) (by kernel_rfl) (off := 3) rfl
  have e3 : (cs.drop 3).take 2 = [.int .u8 q3.last, .int .i64 q3.n] := h3
  have z : cs.drop 5 = [] := List.drop_eq_nil_of_le (by omega)
  have g3 : cs.drop 3 = [.int .u8 q3.last, .int .i64 q3.n] := by rw [show cs.drop 3 = (cs.drop 3).take 2 ++ cs.drop 5 from cut_at cs 3 2, e3, z]; rfl
  have g2 : cs.drop 2 = [.int .i64 q2, .int .u8 q3.last, .int .i64 q3.n] := by rw [show cs.drop 2 = (cs.drop 2).take 1 ++ cs.drop 3 from cut_at cs 2 1, e2, g3]; rfl
  have g1 : cs.drop 1 = [.int .i64 q1, .int .i64 q2, .int .u8 q3.last, .int .i64 q3.n] := by rw [show cs.drop 1 = (cs.drop 1).take 1 ++ cs.drop 2 from cut_at cs 1 1, e1, g2]; rfl
  have g0 : cs.drop 0 = [str q0, .int .i64 q1, .int .i64 q2, .int .u8 q3.last, .int .i64 q3.n] := by rw [show cs.drop 0 = (cs.drop 0).take 1 ++ cs.drop 1 from cut_at cs 0 1, e0, g1]; rfl
  refine ⟨⟨q0, q1, q2, q3⟩, ?_, k0, k1, k2, k3⟩
  rw [List.drop_zero] at g0
  exact g0

theorem rdFReader : Rd Tryd.prog 64 tyFReader okFReader := by
  refine ⟨fun enc w fuel cs x h hw => ?_⟩
  have hu : Tryd.prog.underlying 64 = some (.struct _) := Tryd.underlying64
  have hl := rd_len hu h (m := 11) (by kernel_rfl)
  obtain ⟨q0, h0, k0⟩ := rd_field hu h hw 0 rfl rdReader (m := 5) (by kernel_rfl) (off := 0) rfl
  have e0 : (cs.drop 0).take 5 = [str q0.Row, .int .i64 q0.At, .int .i64 q0.Code, .int .u8 q0.c.last, .int .i64 q0.c.n] := h0
  obtain ⟨q1, h1, k1⟩ := rd_field hu h hw 1 rfl rdFrame (m := 6) (by kernel_rfl) (off := 5) rfl
  obtain ⟨ao0, cap0, h1, s0⟩ := h1
  have e1 : (cs.drop 5).take 6 = [.int .i64 q1.ID, .bool q1.Long, .bool q1.Fast, .bool q1.Remote, .int .i64 q1.Size, .slice ao0 q1.Data.length cap0] := h1
  have z : cs.drop 11 = [] := List.drop_eq_nil_of_le (by omega)
  have g1 : cs.drop 5 = [.int .i64 q1.ID, .bool q1.Long, .bool q1.Fast, .bool q1.Remote, .int .i64 q1.Size, .slice ao0 q1.Data.length cap0] := by rw [show cs.drop 5 = (cs.drop 5).take 6 ++ cs.drop 11 from cut_at cs 5 6, e1, z]; rfl
  have g0 : cs.drop 0 = [str q0.Row, .int .i64 q0.At, .int .i64 q0.Code, .int .u8 q0.c.last, .int .i64 q0.c.n, .int .i64 q1.ID, .bool q1.Long, .bool q1.Fast, .bool q1.Remote, .int .i64 q1.Size, .slice ao0 q1.Data.length cap0] := by rw [show cs.drop 0 = (cs.drop 0).take 5 ++ cs.drop 5 from cut_at cs 0 5, e0, g1]; rfl
  refine ⟨⟨q0, q1⟩, ?_, k0, k1⟩
  rw [List.drop_zero] at g0
  exact ⟨ao0, cap0, g0, s0⟩

theorem rdSender : Rd Tryd.prog 75 tySender okSender := by
  refine ⟨fun enc w fuel cs x h hw => ?_⟩
  have hu : Tryd.prog.underlying 75 = some (.struct _) := Tryd.underlying75
  have hl := rd_len hu h (m := 2) (by kernel_rfl)
  obtain ⟨q0, h0, k0⟩ := rd_field hu h hw 0 rfl (rd_str (P := Tryd.prog) (t := 9) (by kernel_rfl)) (m := 1) (by kernel_rfl) (off := 0) rfl
  have e0 : (cs.drop 0).take 1 = [str q0] := h0
  obtain ⟨q1, h1, k1⟩ := rd_field hu h hw 1 rfl (rd_int (P := Tryd.prog) (t := 3) (k := .i64) (by kernel_rfl)) (m := 1) (by kernel_rfl) (off := 1) rfl
  have e1 : (cs.drop 1).take 1 = [.int .i64 q1] := h1
  have z : cs.drop 2 = [] := List.drop_eq_nil_of_le (by omega)
  have g1 : cs.drop 1 = [.int .i64 q1] := by rw [show cs.drop 1 = (cs.drop 1).take 1 ++ cs.drop 2 from cut_at cs 1 1, e1, z]; rfl
  have g0 : cs.drop 0 = [str q0, .int .i64 q1] := by rw [show cs.drop 0 = (cs.drop 0).take 1 ++ cs.drop 1 from cut_at cs 0 1, e0, g1]; rfl
  refine ⟨⟨q0, q1⟩, ?_, k0, k1⟩
  rw [List.drop_zero] at g0
  exact g0

theorem trim_fun (u0 : List UInt8) (u1 : List UInt8) (hpre : u0.length ≤ 9223372036854775807 ∧ u1.length < 4294967281 ∧ u1.all (fun b => decide (b.toNat < 128)) = true) (Z : Fz) (w : World) (hZ : Z.on w) : Calls Tryd.prog 48 #[str u0, str u1] w fun e w' => e = .returned (str (trimS u0 u1)) ∧ Below w.heap.size w w' := by
  have h := Any.strings_Trim_laid Tryd.lays160 (by kernel_rfl) ⟨⟨u0⟩⟩ ⟨⟨u1⟩⟩ w (by show u0.length ≤ _; exact hpre.1) (by show u1.length < _; exact hpre.2.1) (ascii_of_all hpre.2.2)
  exact h

theorem count1_fun (u0 : List UInt8) (u1 : List UInt8) (hpre : u1.length = 1) (Z : Fz) (w : World) (hZ : Z.on w) : Calls Tryd.prog 61 #[str u0, str u1] w fun e w' => e = .returned (.int .i64 (count1S u0 u1)) ∧ Below w.heap.size w w' := by
  obtain ⟨c, rfl⟩ : ∃ c, u1 = [c] := by
    match u1, hpre with
    | [c], _ => exact ⟨c, rfl⟩
  exact (Any.strings_Count_one Tryd.lays138 ⟨⟨u0⟩⟩ c w).mono fun _ _ ⟨h1, h2⟩ => ⟨h1, h2 ▸ Below.refl _ _⟩

end Go.Proofs.YtmbdcehmeiiaoaaDoor
