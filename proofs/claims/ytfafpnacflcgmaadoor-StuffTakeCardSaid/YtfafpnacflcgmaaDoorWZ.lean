/- The walks, made by program: each call does what its pure predicate says. -/
import Derived.Test.YtfafpnacflcgmaaDoorRows
import Derived.Test.YtfafpnacflcgmaaDoorPZ
import Derived.Shelf.Lay
import Derived.Ground.NamesProg
import Derived.Shelf.Strings.SlTrimAscii
import Derived.Shelf.Strings.Count
namespace Go.Proofs
open Go.Shelf
def Tryd.lays160_ren : Go.Shelf.Ren := ⟨fun | 160 => 43 | 232 => 64 | 231 => 63 | 227 => 65 | 234 => 67 | 233 => 66 | 236 => 69 | 235 => 68 | 228 => 83 | 271 => 85 | 151 => 84 | 197 => 54 | 120 => 100 | 152 => 99 | 260 => 79 | 137 => 108 | 119 => 109 | 224 => 97 | 225 => 96 | 217 => 95 | 266 => 106 | n => n, fun | 9 => 9 | 4 => 4 | 3 => 3 | 5 => 5 | 117 => 98 | 116 => 97 | 0 => 0 | 124 => 101 | 21 => 21 | 105 => 87 | 46 => 85 | 119 => 126 | 139 => 129 | 138 => 128 | n => n, fun | 3 => 1 | 4 => 2 | n => n⟩
theorem Tryd.lays160 : Go.Proofs.Lays.n160 Tryd.prog Tryd.lays160_ren := {
  mixed := by kernel_rfl
  f119 := Tryd.func109.trans (congrArg some (by kernel_rfl))
  f120 := Tryd.func100.trans (congrArg some (by kernel_rfl))
  f137 := Tryd.func108.trans (congrArg some (by kernel_rfl))
  f151 := Tryd.func84.trans (congrArg some (by kernel_rfl))
  f152 := Tryd.func99.trans (congrArg some (by kernel_rfl))
  f160 := Tryd.func43.trans (congrArg some (by kernel_rfl))
  f197 := Tryd.func54.trans (congrArg some (by kernel_rfl))
  f217 := Tryd.func95.trans (congrArg some (by kernel_rfl))
  f224 := Tryd.func97.trans (congrArg some (by kernel_rfl))
  f225 := Tryd.func96.trans (congrArg some (by kernel_rfl))
  f227 := Tryd.func65.trans (congrArg some (by kernel_rfl))
  f228 := Tryd.func83.trans (congrArg some (by kernel_rfl))
  f231 := Tryd.func63.trans (congrArg some (by kernel_rfl))
  f232 := Tryd.func64.trans (congrArg some (by kernel_rfl))
  f233 := Tryd.func66.trans (congrArg some (by kernel_rfl))
  f234 := Tryd.func67.trans (congrArg some (by kernel_rfl))
  f235 := Tryd.func68.trans (congrArg some (by kernel_rfl))
  f236 := Tryd.func69.trans (congrArg some (by kernel_rfl))
  f260 := Tryd.func79.trans (congrArg some (by kernel_rfl))
  f266 := Tryd.func106.trans (congrArg some (by kernel_rfl))
  f271 := Tryd.func85.trans (congrArg some (by kernel_rfl))
  t0 := Tryd.underlying0
  a0 := Tryd.isAgg0
  z0 := Tryd.sizeOf0
  v0 := Tryd.zeroValue0
  t3 := Tryd.underlying3
  a3 := Tryd.isAgg3
  z3 := Tryd.sizeOf3
  v3 := Tryd.zeroValue3
  t4 := Tryd.underlying4
  a4 := Tryd.isAgg4
  z4 := Tryd.sizeOf4
  v4 := Tryd.zeroValue4
  t5 := Tryd.underlying5
  a5 := Tryd.isAgg5
  z5 := Tryd.sizeOf5
  v5 := Tryd.zeroValue5
  t9 := Tryd.underlying9
  a9 := Tryd.isAgg9
  z9 := Tryd.sizeOf9
  v9 := Tryd.zeroValue9
  t21 := Tryd.underlying21
  a21 := Tryd.isAgg21
  z21 := Tryd.sizeOf21
  v21 := Tryd.zeroValue21
  t46 := Tryd.underlying85
  a46 := Tryd.isAgg85
  z46 := Tryd.sizeOf85
  v46 := Tryd.zeroValue85
  t105 := Tryd.underlying87
  a105 := Tryd.isAgg87
  z105 := Tryd.sizeOf87
  v105 := Tryd.zeroValue87
  t116 := Tryd.underlying97
  a116 := Tryd.isAgg97
  z116 := Tryd.sizeOf97
  t117 := Tryd.underlying98
  a117 := Tryd.isAgg98
  z117 := Tryd.sizeOf98
  v117 := Tryd.zeroValue98
  t119 := Tryd.underlying126
  a119 := Tryd.isAgg126
  z119 := Tryd.sizeOf126
  t124 := Tryd.underlying101
  a124 := Tryd.isAgg101
  z124 := Tryd.sizeOf101
  v124 := Tryd.zeroValue101
  t138 := Tryd.underlying128
  a138 := Tryd.isAgg128
  z138 := Tryd.sizeOf128
  v138 := Tryd.zeroValue128
  t139 := Tryd.underlying129
  a139 := Tryd.isAgg129
  z139 := Tryd.sizeOf129
  v139 := Tryd.zeroValue129
  g3 := by kernel_rfl
  g4 := by kernel_rfl }
def Tryd.lays138_ren : Go.Shelf.Ren := ⟨fun | 138 => 42 | 195 => 60 | 218 => 61 | 143 => 62 | 219 => 82 | 217 => 95 | 225 => 96 | 224 => 97 | 267 => 98 | 266 => 106 | 314 => 107 | n => n, fun | 9 => 9 | 3 => 3 | 4 => 4 | 5 => 5 | 0 => 0 | 46 => 85 | 146 => 122 | 51 => 105 | n => n, fun | 1 => 0 | n => n⟩
theorem Tryd.lays138 : Go.Proofs.Lays.n138 Tryd.prog Tryd.lays138_ren := {
  mixed := by kernel_rfl
  f138 := Tryd.func42.trans (congrArg some (by kernel_rfl))
  f143 := Tryd.func62.trans (congrArg some (by kernel_rfl))
  f195 := Tryd.func60.trans (congrArg some (by kernel_rfl))
  f217 := Tryd.func95.trans (congrArg some (by kernel_rfl))
  f218 := Tryd.func61.trans (congrArg some (by kernel_rfl))
  f219 := Tryd.func82.trans (congrArg some (by kernel_rfl))
  f224 := Tryd.func97.trans (congrArg some (by kernel_rfl))
  f225 := Tryd.func96.trans (congrArg some (by kernel_rfl))
  f266 := Tryd.func106.trans (congrArg some (by kernel_rfl))
  f267 := Tryd.func98.trans (congrArg some (by kernel_rfl))
  f314 := Tryd.func107.trans (congrArg some (by kernel_rfl))
  t0 := Tryd.underlying0
  a0 := Tryd.isAgg0
  z0 := Tryd.sizeOf0
  v0 := Tryd.zeroValue0
  t3 := Tryd.underlying3
  a3 := Tryd.isAgg3
  z3 := Tryd.sizeOf3
  v3 := Tryd.zeroValue3
  t4 := Tryd.underlying4
  a4 := Tryd.isAgg4
  z4 := Tryd.sizeOf4
  v4 := Tryd.zeroValue4
  t5 := Tryd.underlying5
  a5 := Tryd.isAgg5
  z5 := Tryd.sizeOf5
  v5 := Tryd.zeroValue5
  t9 := Tryd.underlying9
  a9 := Tryd.isAgg9
  z9 := Tryd.sizeOf9
  v9 := Tryd.zeroValue9
  t46 := Tryd.underlying85
  a46 := Tryd.isAgg85
  z46 := Tryd.sizeOf85
  v46 := Tryd.zeroValue85
  t51 := Tryd.underlying105
  a51 := Tryd.isAgg105
  z51 := Tryd.sizeOf105
  v51 := Tryd.zeroValue105
  t146 := Tryd.underlying122
  a146 := Tryd.isAgg122
  z146 := Tryd.sizeOf122
  v146 := Tryd.zeroValue122
  g1 := by kernel_rfl }
end Go.Proofs
set_option linter.unusedVariables false
set_option linter.unusedSimpArgs false
namespace Go.Proofs.YtfafpnacflcgmaaDoor
open Go.Sy Go.RowKit
theorem mixed : Tryd.prog.follows .mixedOrders = true := by kernel_rfl
theorem rdCounter : Rd Tryd.prog 78 tyCounter okCounter := by
  refine ⟨fun enc w fuel cs x h hw => ?_⟩
  have hu : Tryd.prog.underlying 78 = some (.struct _) := Tryd.underlying78
  have hl := rd_len hu h (m := 2) (by kernel_rfl)
  obtain ⟨q0, h0, k0⟩ := rd_field hu h hw 0 rfl (rd_int (P := Tryd.prog) (t := 5) (k := .u8) (by kernel_rfl)) (m := 1) (by kernel_rfl) (off := 0) rfl
  have e0 : (cs.drop 0).take 1 = [.int .u8 q0] := h0
  obtain ⟨q1, h1, k1⟩ := rd_field hu h hw 1 rfl (rd_int (P := Tryd.prog) (t := 3) (k := .i64) (by kernel_rfl)) (m := 1) (by kernel_rfl) (off := 1) rfl
  have e1 : (cs.drop 1).take 1 = [.int .i64 q1] := h1
  have z : cs.drop 2 = [] := List.drop_eq_nil_of_le (by omega)
  have g1 : cs.drop 1 = [.int .i64 q1] := by rw [show cs.drop 1 = (cs.drop 1).take 1 ++ cs.drop 2 from cut_at cs 1 1, e1, z]; rfl
  have g0 : cs.drop 0 = [.int .u8 q0, .int .i64 q1] := by rw [show cs.drop 0 = (cs.drop 0).take 1 ++ cs.drop 1 from cut_at cs 0 1, e0, g1]; rfl
  refine ⟨⟨q0, q1⟩, ?_, k0, k1⟩
  rw [List.drop_zero] at g0
  exact g0

theorem rdReader : Rd Tryd.prog 80 tyReader okReader := by
  refine ⟨fun enc w fuel cs x h hw => ?_⟩
  have hu : Tryd.prog.underlying 80 = some (.struct _) := Tryd.underlying80
  have hl := rd_len hu h (m := 5) (by kernel_rfl)
  obtain ⟨q0, h0, k0⟩ := rd_field hu h hw 0 rfl (rd_str (P := Tryd.prog) (t := 9) (by kernel_rfl)) (m := 1) (by kernel_rfl) (off := 0) rfl
  have e0 : (cs.drop 0).take 1 = [str q0] := h0
  obtain ⟨q1, h1, k1⟩ := rd_field hu h hw 1 rfl (rd_int (P := Tryd.prog) (t := 3) (k := .i64) (by kernel_rfl)) (m := 1) (by kernel_rfl) (off := 1) rfl
  have e1 : (cs.drop 1).take 1 = [.int .i64 q1] := h1
  obtain ⟨q2, h2, k2⟩ := rd_field hu h hw 2 rfl (rd_int (P := Tryd.prog) (t := 22) (k := .i64) (by kernel_rfl)) (m := 1) (by kernel_rfl) (off := 2) rfl
  have e2 : (cs.drop 2).take 1 = [.int .i64 q2] := h2
  obtain ⟨q3, h3, k3⟩ := rd_field hu h hw 3 rfl rdCounter (m := 2) (by kernel_rfl) (off := 3) rfl
  have e3 : (cs.drop 3).take 2 = [.int .u8 q3.last, .int .i64 q3.n] := h3
  have z : cs.drop 5 = [] := List.drop_eq_nil_of_le (by omega)
  have g3 : cs.drop 3 = [.int .u8 q3.last, .int .i64 q3.n] := by rw [show cs.drop 3 = (cs.drop 3).take 2 ++ cs.drop 5 from cut_at cs 3 2, e3, z]; rfl
  have g2 : cs.drop 2 = [.int .i64 q2, .int .u8 q3.last, .int .i64 q3.n] := by rw [show cs.drop 2 = (cs.drop 2).take 1 ++ cs.drop 3 from cut_at cs 2 1, e2, g3]; rfl
  have g1 : cs.drop 1 = [.int .i64 q1, .int .i64 q2, .int .u8 q3.last, .int .i64 q3.n] := by rw [show cs.drop 1 = (cs.drop 1).take 1 ++ cs.drop 2 from cut_at cs 1 1, e1, g2]; rfl
  have g0 : cs.drop 0 = [str q0, .int .i64 q1, .int .i64 q2, .int .u8 q3.last, .int .i64 q3.n] := by rw [show cs.drop 0 = (cs.drop 0).take 1 ++ cs.drop 1 from cut_at cs 0 1, e0, g1]; rfl
  refine ⟨⟨q0, q1, q2, q3⟩, ?_, k0, k1, k2, k3⟩
  rw [List.drop_zero] at g0
  exact g0

theorem trim_fun (u0 : List UInt8) (u1 : List UInt8) (hpre : u0.length ≤ 9223372036854775807 ∧ u1.length < 4294967281 ∧ u1.all (fun b => decide (b.toNat < 128)) = true) (Z : Fz) (w : World) (hZ : Z.on w) : Calls Tryd.prog 43 #[str u0, str u1] w fun e w' => e = .returned (str (trimS u0 u1)) ∧ Below w.heap.size w w' := by
  have h := Any.strings_Trim_laid Tryd.lays160 (by kernel_rfl) ⟨⟨u0⟩⟩ ⟨⟨u1⟩⟩ w (by show u0.length ≤ _; exact hpre.1) (by show u1.length < _; exact hpre.2.1) (ascii_of_all hpre.2.2)
  exact h

theorem count1_fun (u0 : List UInt8) (u1 : List UInt8) (hpre : u1.length = 1) (Z : Fz) (w : World) (hZ : Z.on w) : Calls Tryd.prog 42 #[str u0, str u1] w fun e w' => e = .returned (.int .i64 (count1S u0 u1)) ∧ Below w.heap.size w w' := by
  obtain ⟨c, rfl⟩ : ∃ c, u1 = [c] := by
    match u1, hpre with
    | [c], _ => exact ⟨c, rfl⟩
  exact (Any.strings_Count_one Tryd.lays138 ⟨⟨u0⟩⟩ c w).mono fun _ _ ⟨h1, h2⟩ => ⟨h1, h2 ▸ Below.refl _ _⟩

end Go.Proofs.YtfafpnacflcgmaaDoor
