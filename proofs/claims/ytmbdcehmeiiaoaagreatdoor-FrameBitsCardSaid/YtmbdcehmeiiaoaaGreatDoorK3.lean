/- Texts put together (pure ones, or walks made by program). -/
import Derived.Test.YtmbdcehmeiiaoaaGreatDoorCore
import Derived.Test.YtmbdcehmeiiaoaaGreatDoorK1
import Derived.Test.YtmbdcehmeiiaoaaGreatDoorK2
import Derived.Test.YtmbdcehmeiiaoaaGreatDoorRows
import Derived.Shelf.Lay
import Derived.Ground.NamesProg
import Derived.Shelf.Strings.SlTrimAscii
import Derived.Shelf.Strings.Count
import Derived.Shelf.Strings.Repeat
namespace Go.Proofs
open Go.Shelf
def Tryz.lays160_ren : Go.Shelf.Ren := ⟨fun | 160 => 65 | 232 => 92 | 231 => 91 | 227 => 93 | 234 => 95 | 233 => 94 | 236 => 97 | 235 => 96 | 228 => 114 | 271 => 117 | 151 => 116 | 197 => 115 | 120 => 137 | 152 => 136 | 260 => 135 | 137 => 147 | 119 => 148 | 224 => 121 | 225 => 120 | 217 => 119 | 266 => 139 | n => n, fun | 9 => 9 | 4 => 4 | 3 => 3 | 5 => 5 | 117 => 126 | 116 => 125 | 0 => 0 | 124 => 129 | 21 => 21 | 105 => 152 | 46 => 75 | 119 => 178 | 139 => 181 | 138 => 180 | n => n, fun | 3 => 2 | 4 => 3 | n => n⟩
theorem Tryz.lays160 : Go.Proofs.Lays.n160 Tryz.prog Tryz.lays160_ren := {
  mixed := by kernel_rfl
  f119 := Tryz.func148.trans (congrArg some (by kernel_rfl))
  f120 := Tryz.func137.trans (congrArg some (by kernel_rfl))
  f137 := Tryz.func147.trans (congrArg some (by kernel_rfl))
  f151 := Tryz.func116.trans (congrArg some (by kernel_rfl))
  f152 := Tryz.func136.trans (congrArg some (by kernel_rfl))
  f160 := Tryz.func65.trans (congrArg some (by kernel_rfl))
  f197 := Tryz.func115.trans (congrArg some (by kernel_rfl))
  f217 := Tryz.func119.trans (congrArg some (by kernel_rfl))
  f224 := Tryz.func121.trans (congrArg some (by kernel_rfl))
  f225 := Tryz.func120.trans (congrArg some (by kernel_rfl))
  f227 := Tryz.func93.trans (congrArg some (by kernel_rfl))
  f228 := Tryz.func114.trans (congrArg some (by kernel_rfl))
  f231 := Tryz.func91.trans (congrArg some (by kernel_rfl))
  f232 := Tryz.func92.trans (congrArg some (by kernel_rfl))
  f233 := Tryz.func94.trans (congrArg some (by kernel_rfl))
  f234 := Tryz.func95.trans (congrArg some (by kernel_rfl))
  f235 := Tryz.func96.trans (congrArg some (by kernel_rfl))
  f236 := Tryz.func97.trans (congrArg some (by kernel_rfl))
  f260 := Tryz.func135.trans (congrArg some (by kernel_rfl))
  f266 := Tryz.func139.trans (congrArg some (by kernel_rfl))
  f271 := Tryz.func117.trans (congrArg some (by kernel_rfl))
  t0 := Tryz.underlying0
  a0 := Tryz.isAgg0
  z0 := Tryz.sizeOf0
  v0 := Tryz.zeroValue0
  t3 := Tryz.underlying3
  a3 := Tryz.isAgg3
  z3 := Tryz.sizeOf3
  v3 := Tryz.zeroValue3
  t4 := Tryz.underlying4
  a4 := Tryz.isAgg4
  z4 := Tryz.sizeOf4
  v4 := Tryz.zeroValue4
  t5 := Tryz.underlying5
  a5 := Tryz.isAgg5
  z5 := Tryz.sizeOf5
  v5 := Tryz.zeroValue5
  t9 := Tryz.underlying9
  a9 := Tryz.isAgg9
  z9 := Tryz.sizeOf9
  v9 := Tryz.zeroValue9
  t21 := Tryz.underlying21
  a21 := Tryz.isAgg21
  z21 := Tryz.sizeOf21
  v21 := Tryz.zeroValue21
  t46 := Tryz.underlying75
  a46 := Tryz.isAgg75
  z46 := Tryz.sizeOf75
  v46 := Tryz.zeroValue75
  t105 := Tryz.underlying152
  a105 := Tryz.isAgg152
  z105 := Tryz.sizeOf152
  v105 := Tryz.zeroValue152
  t116 := Tryz.underlying125
  a116 := Tryz.isAgg125
  z116 := Tryz.sizeOf125
  t117 := Tryz.underlying126
  a117 := Tryz.isAgg126
  z117 := Tryz.sizeOf126
  v117 := Tryz.zeroValue126
  t119 := Tryz.underlying178
  a119 := Tryz.isAgg178
  z119 := Tryz.sizeOf178
  t124 := Tryz.underlying129
  a124 := Tryz.isAgg129
  z124 := Tryz.sizeOf129
  v124 := Tryz.zeroValue129
  t138 := Tryz.underlying180
  a138 := Tryz.isAgg180
  z138 := Tryz.sizeOf180
  v138 := Tryz.zeroValue180
  t139 := Tryz.underlying181
  a139 := Tryz.isAgg181
  z139 := Tryz.sizeOf181
  v139 := Tryz.zeroValue181
  g3 := by kernel_rfl
  g4 := by kernel_rfl }
def Tryz.lays138_ren : Go.Shelf.Ren := ⟨fun | 138 => 42 | 195 => 74 | 218 => 75 | 143 => 76 | 219 => 100 | 217 => 119 | 225 => 120 | 224 => 121 | 267 => 122 | 266 => 139 | 314 => 140 | n => n, fun | 9 => 9 | 3 => 3 | 4 => 4 | 5 => 5 | 0 => 0 | 46 => 75 | 146 => 164 | 51 => 143 | n => n, fun | 1 => 0 | n => n⟩
theorem Tryz.lays138 : Go.Proofs.Lays.n138 Tryz.prog Tryz.lays138_ren := {
  mixed := by kernel_rfl
  f138 := Tryz.func42.trans (congrArg some (by kernel_rfl))
  f143 := Tryz.func76.trans (congrArg some (by kernel_rfl))
  f195 := Tryz.func74.trans (congrArg some (by kernel_rfl))
  f217 := Tryz.func119.trans (congrArg some (by kernel_rfl))
  f218 := Tryz.func75.trans (congrArg some (by kernel_rfl))
  f219 := Tryz.func100.trans (congrArg some (by kernel_rfl))
  f224 := Tryz.func121.trans (congrArg some (by kernel_rfl))
  f225 := Tryz.func120.trans (congrArg some (by kernel_rfl))
  f266 := Tryz.func139.trans (congrArg some (by kernel_rfl))
  f267 := Tryz.func122.trans (congrArg some (by kernel_rfl))
  f314 := Tryz.func140.trans (congrArg some (by kernel_rfl))
  t0 := Tryz.underlying0
  a0 := Tryz.isAgg0
  z0 := Tryz.sizeOf0
  v0 := Tryz.zeroValue0
  t3 := Tryz.underlying3
  a3 := Tryz.isAgg3
  z3 := Tryz.sizeOf3
  v3 := Tryz.zeroValue3
  t4 := Tryz.underlying4
  a4 := Tryz.isAgg4
  z4 := Tryz.sizeOf4
  v4 := Tryz.zeroValue4
  t5 := Tryz.underlying5
  a5 := Tryz.isAgg5
  z5 := Tryz.sizeOf5
  v5 := Tryz.zeroValue5
  t9 := Tryz.underlying9
  a9 := Tryz.isAgg9
  z9 := Tryz.sizeOf9
  v9 := Tryz.zeroValue9
  t46 := Tryz.underlying75
  a46 := Tryz.isAgg75
  z46 := Tryz.sizeOf75
  v46 := Tryz.zeroValue75
  t51 := Tryz.underlying143
  a51 := Tryz.isAgg143
  z51 := Tryz.sizeOf143
  v51 := Tryz.zeroValue143
  t146 := Tryz.underlying164
  a146 := Tryz.isAgg164
  z146 := Tryz.sizeOf164
  v146 := Tryz.zeroValue164
  g1 := by kernel_rfl }
end Go.Proofs
set_option linter.unusedVariables false
set_option linter.unusedSimpArgs false
namespace Go.Proofs.YtmbdcehmeiiaoaaGreatDoor
open Go.Sy Go.RowKit
theorem mixed : Tryz.prog.follows .mixedOrders = true := by kernel_rfl
theorem rdFrame : Rd Tryz.prog 24 tyFrame okFrame := by
  refine ⟨fun enc w fuel cs x h hw => ?_⟩
  have hu : Tryz.prog.underlying 24 = some (.struct _) := Tryz.underlying24
  have hl := rd_len hu h (m := 6) (by kernel_rfl)
  obtain ⟨j, o, p⟩ := rd_field hu h hw 0 rfl (rd_int (P := Tryz.prog) (t := 3) (k := .i64) (by kernel_rfl)) (m := 1) (by kernel_rfl) (off := 0) rfl
  have q : (cs.drop 0).take 1 = [i6 j] := o
  obtain ⟨i, r, s⟩ := rd_field hu h hw 1 rfl (rd_bool (P := Tryz.prog) (t := 4) (by kernel_rfl)) (m := 1) (by kernel_rfl) (off := 1) rfl
  have u : (cs.drop 1).take 1 = [.bool i] := r
  obtain ⟨g, v, y⟩ := rd_field hu h hw 2 rfl (rd_bool (P := Tryz.prog) (t := 4) (by kernel_rfl)) (m := 1) (by kernel_rfl) (off := 2) rfl
  have A : (cs.drop 2).take 1 = [.bool g] := v
  obtain ⟨f, B, C⟩ := rd_field hu h hw 3 rfl (rd_bool (P := Tryz.prog) (t := 4) (by kernel_rfl)) (m := 1) (by kernel_rfl) (off := 3) rfl
  have D : (cs.drop 3).take 1 = [.bool f] := B
  obtain ⟨d, E, F⟩ := rd_field hu h hw 4 rfl (rd_int (P := Tryz.prog) (t := 3) (k := .i64) (by kernel_rfl)) (m := 1) (by kernel_rfl) (off := 4) rfl
  have G : (cs.drop 4).take 1 = [i6 d] := E
  obtain ⟨a, l, H⟩ := rd_field hu h hw 5 rfl (rd_slice (P := Tryz.prog) (t := 22) (e := 5) (bytes := 1) (by kernel_rfl) (rd_int (P := Tryz.prog) (t := 5) (k := .u8) (by kernel_rfl))) (m := 1) (by kernel_rfl) (off := 5) rfl
  obtain ⟨b, c, l, I⟩ := l
  have J : (cs.drop 5).take 1 = [.slice b a.length c] := l
  have z : cs.drop 6 = [] := List.drop_eq_nil_of_le (by omega)
  have K : cs.drop 5 = [.slice b a.length c] := by rw [show cs.drop 5 = (cs.drop 5).take 1 ++ cs.drop 6 from cut_at cs 5 1, J, z]; rfl
  have L : cs.drop 4 = [i6 d, .slice b a.length c] := by rw [show cs.drop 4 = (cs.drop 4).take 1 ++ cs.drop 5 from cut_at cs 4 1, G, K]; rfl
  have M : cs.drop 3 = [.bool f, i6 d, .slice b a.length c] := by rw [show cs.drop 3 = (cs.drop 3).take 1 ++ cs.drop 4 from cut_at cs 3 1, D, L]; rfl
  have N : cs.drop 2 = [.bool g, .bool f, i6 d, .slice b a.length c] := by rw [show cs.drop 2 = (cs.drop 2).take 1 ++ cs.drop 3 from cut_at cs 2 1, A, M]; rfl
  have O : cs.drop 1 = [.bool i, .bool g, .bool f, i6 d, .slice b a.length c] := by rw [show cs.drop 1 = (cs.drop 1).take 1 ++ cs.drop 2 from cut_at cs 1 1, u, N]; rfl
  have n : cs.drop 0 = [i6 j, .bool i, .bool g, .bool f, i6 d, .slice b a.length c] := by rw [show cs.drop 0 = (cs.drop 0).take 1 ++ cs.drop 1 from cut_at cs 0 1, q, O]; rfl
  refine ⟨⟨j, i, g, f, d, a⟩, ?_, p, s, y, C, F, H⟩
  rw [List.drop_zero] at n
  exact ⟨b, c, n, I⟩

theorem rdKind : Rd Tryz.prog 100 tyKind okKind := by
  refine ⟨fun enc w fuel cs x h hw => ?_⟩
  have hu : Tryz.prog.underlying 100 = some (.struct _) := Tryz.underlying100
  have hl := rd_len hu h (m := 4) (by kernel_rfl)
  obtain ⟨d, f, g⟩ := rd_field hu h hw 0 rfl (rd_int (P := Tryz.prog) (t := 3) (k := .i64) (by kernel_rfl)) (m := 1) (by kernel_rfl) (off := 0) rfl
  have i : (cs.drop 0).take 1 = [i6 d] := f
  obtain ⟨c, j, l⟩ := rd_field hu h hw 1 rfl (rd_int (P := Tryz.prog) (t := 93) (k := .u64) (by kernel_rfl)) (m := 1) (by kernel_rfl) (off := 1) rfl
  have n : (cs.drop 1).take 1 = [y6 c] := j
  obtain ⟨b, o, p⟩ := rd_field hu h hw 2 rfl (rd_int (P := Tryz.prog) (t := 93) (k := .u64) (by kernel_rfl)) (m := 1) (by kernel_rfl) (off := 2) rfl
  have q : (cs.drop 2).take 1 = [y6 b] := o
  obtain ⟨a, r, s⟩ := rd_field hu h hw 3 rfl (rd_int (P := Tryz.prog) (t := 93) (k := .u64) (by kernel_rfl)) (m := 1) (by kernel_rfl) (off := 3) rfl
  have u : (cs.drop 3).take 1 = [y6 a] := r
  have z : cs.drop 4 = [] := List.drop_eq_nil_of_le (by omega)
  have v : cs.drop 3 = [y6 a] := by rw [show cs.drop 3 = (cs.drop 3).take 1 ++ cs.drop 4 from cut_at cs 3 1, u, z]; rfl
  have y : cs.drop 2 = [y6 b, y6 a] := by rw [show cs.drop 2 = (cs.drop 2).take 1 ++ cs.drop 3 from cut_at cs 2 1, q, v]; rfl
  have A : cs.drop 1 = [y6 c, y6 b, y6 a] := by rw [show cs.drop 1 = (cs.drop 1).take 1 ++ cs.drop 2 from cut_at cs 1 1, n, y]; rfl
  have e : cs.drop 0 = [i6 d, y6 c, y6 b, y6 a] := by rw [show cs.drop 0 = (cs.drop 0).take 1 ++ cs.drop 1 from cut_at cs 0 1, i, A]; rfl
  refine ⟨⟨d, c, b, a⟩, ?_, g, l, p, s⟩
  rw [List.drop_zero] at e
  exact e

theorem rdCounter : Rd Tryz.prog 57 tyCounter okCounter := by
  refine ⟨fun enc w fuel cs x h hw => ?_⟩
  have hu : Tryz.prog.underlying 57 = some (.struct _) := Tryz.underlying57
  have hl := rd_len hu h (m := 2) (by kernel_rfl)
  obtain ⟨b, d, e⟩ := rd_field hu h hw 0 rfl (rd_int (P := Tryz.prog) (t := 5) (k := .u8) (by kernel_rfl)) (m := 1) (by kernel_rfl) (off := 0) rfl
  have f : (cs.drop 0).take 1 = [y8 b] := d
  obtain ⟨a, g, i⟩ := rd_field hu h hw 1 rfl (rd_int (P := Tryz.prog) (t := 3) (k := .i64) (by kernel_rfl)) (m := 1) (by kernel_rfl) (off := 1) rfl
  have j : (cs.drop 1).take 1 = [i6 a] := g
  have z : cs.drop 2 = [] := List.drop_eq_nil_of_le (by omega)
  have l : cs.drop 1 = [i6 a] := by rw [show cs.drop 1 = (cs.drop 1).take 1 ++ cs.drop 2 from cut_at cs 1 1, j, z]; rfl
  have c : cs.drop 0 = [y8 b, i6 a] := by rw [show cs.drop 0 = (cs.drop 0).take 1 ++ cs.drop 1 from cut_at cs 0 1, f, l]; rfl
  refine ⟨⟨b, a⟩, ?_, e, i⟩
  rw [List.drop_zero] at c
  exact c

theorem rdReader : Rd Tryz.prog 59 tyReader okReader := by
  refine ⟨fun enc w fuel cs x h hw => ?_⟩
  have hu : Tryz.prog.underlying 59 = some (.struct _) := Tryz.underlying59
  have hl := rd_len hu h (m := 5) (by kernel_rfl)
  obtain ⟨d, f, g⟩ := rd_field hu h hw 0 rfl (rd_str (P := Tryz.prog) (t := 9) (by kernel_rfl)) (m := 1) (by kernel_rfl) (off := 0) rfl
  have i : (cs.drop 0).take 1 = [str d] := f
  obtain ⟨c, j, l⟩ := rd_field hu h hw 1 rfl (rd_int (P := Tryz.prog) (t := 3) (k := .i64) (by kernel_rfl)) (m := 1) (by kernel_rfl) (off := 1) rfl
  have o : (cs.drop 1).take 1 = [i6 c] := j
  obtain ⟨b, p, q⟩ := rd_field hu h hw 2 rfl (rd_int (P := Tryz.prog) (t := 25) (k := .i64) (by kernel_rfl)) (m := 1) (by kernel_rfl) (off := 2) rfl
  have r : (cs.drop 2).take 1 = [i6 b] := p
  obtain ⟨a, s, u⟩ := rd_field hu h hw 3 rfl rdCounter (m := 2) (by kernel_rfl) (off := 3) rfl
  have v : (cs.drop 3).take 2 = [y8 a.last, i6 a.n] := s
  have z : cs.drop 5 = [] := List.drop_eq_nil_of_le (by omega)
  have y : cs.drop 3 = [y8 a.last, i6 a.n] := by rw [show cs.drop 3 = (cs.drop 3).take 2 ++ cs.drop 5 from cut_at cs 3 2, v, z]; rfl
  have A : cs.drop 2 = [i6 b, y8 a.last, i6 a.n] := by rw [show cs.drop 2 = (cs.drop 2).take 1 ++ cs.drop 3 from cut_at cs 2 1, r, y]; rfl
  have B : cs.drop 1 = [i6 c, i6 b, y8 a.last, i6 a.n] := by rw [show cs.drop 1 = (cs.drop 1).take 1 ++ cs.drop 2 from cut_at cs 1 1, o, A]; rfl
  have e : cs.drop 0 = [str d, i6 c, i6 b, y8 a.last, i6 a.n] := by rw [show cs.drop 0 = (cs.drop 0).take 1 ++ cs.drop 1 from cut_at cs 0 1, i, B]; rfl
  refine ⟨⟨d, c, b, a⟩, ?_, g, l, q, u⟩
  rw [List.drop_zero] at e
  exact e

theorem rdFReader : Rd Tryz.prog 61 tyFReader okFReader := by
  refine ⟨fun enc w fuel cs x h hw => ?_⟩
  have hu : Tryz.prog.underlying 61 = some (.struct _) := Tryz.underlying61
  have hl := rd_len hu h (m := 11) (by kernel_rfl)
  obtain ⟨b, i, j⟩ := rd_field hu h hw 0 rfl rdReader (m := 5) (by kernel_rfl) (off := 0) rfl
  have k : (cs.drop 0).take 5 = [str b.Row, i6 b.At, i6 b.Code, y8 b.c.last, i6 b.c.n] := i
  obtain ⟨a, f, l⟩ := rd_field hu h hw 1 rfl rdFrame (m := 6) (by kernel_rfl) (off := 5) rfl
  obtain ⟨d, e, f, o⟩ := f
  have p : (cs.drop 5).take 6 = [i6 a.ID, .bool a.Long, .bool a.Fast, .bool a.Remote, i6 a.Size, .slice d a.Data.length e] := f
  have z : cs.drop 11 = [] := List.drop_eq_nil_of_le (by omega)
  have q : cs.drop 5 = [i6 a.ID, .bool a.Long, .bool a.Fast, .bool a.Remote, i6 a.Size, .slice d a.Data.length e] := by rw [show cs.drop 5 = (cs.drop 5).take 6 ++ cs.drop 11 from cut_at cs 5 6, p, z]; rfl
  have g : cs.drop 0 = [str b.Row, i6 b.At, i6 b.Code, y8 b.c.last, i6 b.c.n, i6 a.ID, .bool a.Long, .bool a.Fast, .bool a.Remote, i6 a.Size, .slice d a.Data.length e] := by rw [show cs.drop 0 = (cs.drop 0).take 5 ++ cs.drop 5 from cut_at cs 0 5, k, q]; rfl
  refine ⟨⟨b, a⟩, ?_, j, l⟩
  rw [List.drop_zero] at g
  exact ⟨d, e, g, o⟩

theorem rdSender : Rd Tryz.prog 89 tySender okSender := by
  refine ⟨fun enc w fuel cs x h hw => ?_⟩
  have hu : Tryz.prog.underlying 89 = some (.struct _) := Tryz.underlying89
  have hl := rd_len hu h (m := 2) (by kernel_rfl)
  obtain ⟨b, d, e⟩ := rd_field hu h hw 0 rfl (rd_str (P := Tryz.prog) (t := 9) (by kernel_rfl)) (m := 1) (by kernel_rfl) (off := 0) rfl
  have f : (cs.drop 0).take 1 = [str b] := d
  obtain ⟨a, g, i⟩ := rd_field hu h hw 1 rfl (rd_int (P := Tryz.prog) (t := 3) (k := .i64) (by kernel_rfl)) (m := 1) (by kernel_rfl) (off := 1) rfl
  have j : (cs.drop 1).take 1 = [i6 a] := g
  have z : cs.drop 2 = [] := List.drop_eq_nil_of_le (by omega)
  have l : cs.drop 1 = [i6 a] := by rw [show cs.drop 1 = (cs.drop 1).take 1 ++ cs.drop 2 from cut_at cs 1 1, j, z]; rfl
  have c : cs.drop 0 = [str b, i6 a] := by rw [show cs.drop 0 = (cs.drop 0).take 1 ++ cs.drop 1 from cut_at cs 0 1, f, l]; rfl
  refine ⟨⟨b, a⟩, ?_, e, i⟩
  rw [List.drop_zero] at c
  exact c

theorem trim_fun (u0 : List UInt8) (u1 : List UInt8) (hpre : u0.length ≤ 9223372036854775807 ∧ u1.length < 4294967281 ∧ u1.all (fun b => decide (b.toNat < 128)) = true) (Z : Fz) (w : World) (hZ : Z.on w) : Calls Tryz.prog 65 #[str u0, str u1] w fun e w' => e = .returned (str (trimS u0 u1)) ∧ Below w.heap.size w w' := by
  have h := Any.strings_Trim_laid Tryz.lays160 (by kernel_rfl) ⟨⟨u0⟩⟩ ⟨⟨u1⟩⟩ w (by show u0.length ≤ _; exact hpre.1) (by show u1.length < _; exact hpre.2.1) (ascii_of_all hpre.2.2)
  exact h

theorem count1_fun (u0 : List UInt8) (u1 : List UInt8) (hpre : u1.length = 1) (Z : Fz) (w : World) (hZ : Z.on w) : Calls Tryz.prog 42 #[str u0, str u1] w fun e w' => e = .returned (i6 (count1S u0 u1)) ∧ Below w.heap.size w w' := by
  obtain ⟨c, rfl⟩ : ∃ c, u1 = [c] := by
    match u1, hpre with
    | [c], _ => exact ⟨c, rfl⟩
  exact (Any.strings_Count_one Tryz.lays138 ⟨⟨u0⟩⟩ c w).mono fun _ _ ⟨h1, h2⟩ => ⟨h1, h2 ▸ Below.refl _ _⟩

end Go.Proofs.YtmbdcehmeiiaoaaGreatDoor
set_option linter.unusedVariables false
set_option linter.unusedSimpArgs false
set_option maxRecDepth 100000
set_option maxHeartbeats 0
namespace Go.Proofs.YtmbdcehmeiiaoaaGreatDoor
open Go.Sy Go.RowKit
theorem gtrim_walk (u0 : List Int) (ao1 : Option Addr) (cap2 : Nat) (Z : Fz) (w : World) (hs3 : SlR (tyInt .u32) Z ao1 cap2 u0) (hZ : Z.on w) {K : (List Int) → Prop} (hp : gtrim_vc u0 K) : Calls Tryz.prog 126 #[.slice ao1 u0.length cap2] w fun e w' => ∃ (r : (List Int)) (ao1001 : Option Addr) (cap1002 : Nat) (Z' : Fz), e = .returned (.slice ao1001 r.length cap1002) ∧ K r ∧ SlR (tyInt .u32) Z' ao1001 cap1002 r ∧ Mem w.heap.size [] w Z [] Z' w' := by
 refine enter0 Tryz.func126 rfl rfl (by kernel_rfl) ?_; intro a0 D; have l := Mem.start w Z hZ; have aE := Fz.le.refl Z
 have ab := hp (hs3.small); clear hp
 refine sqB D l [] [] [] ?_; intro a6 E; clear D
 refine sqB E l [] [] [(3, i6 (u0.length : Int))] ?_; intro F G; clear E
 refine wp_seq ?_
 refine wp_block ?_
 have H : Fr 21 [] [⟨0, [], .slice ao1 u0.length cap2⟩, ⟨3, [], i6 (u0.length : Int)⟩] F := G.region (by kernel_rfl) (by kernel_rfl); clear G
 have I : Fr 21 [] [⟨0, [], .slice ao1 u0.length cap2⟩, ⟨3, [], i6 (u0.length : Int)⟩] F := H.region (by kernel_rfl) (by kernel_rfl); clear H
 obtain ⟨ac, ad, ae, af⟩ := ab
 refine lp (ι := Int) (fun (s : Int) => [⟨0, [], .slice ao1 u0.length cap2⟩, ⟨3, [], i6 s⟩]) (fun (s : Int) => []) (fun (s : Int) => Z) (fun (s : Int) => ac s) (fun (s : Int) => ad s) (u0.length : Int) ae (by exact I.region (by kernel_rfl) (by kernel_rfl)) (by exact l) ?_
 rintro a ag ah ai J L
 have M : Fr 21 [] [⟨0, [], .slice ao1 u0.length cap2⟩, ⟨3, [], i6 a⟩] ah := J; clear J I
 have f : Mem w.heap.size [] w Z [] Z ai := L; clear L l
 have m := af a ag
 refine wp_seq ?_
 refine sqH ?_; intro N n
 refine bt M f 3 [] [] [(8, .bool (decide (a > 0)))] ?_; intro aF o; clear M
 rcases Bool.eq_false_or_eq_true (decide (a > 0)) with h | h
 · -- true
  have aj := m.1 h; clear m
  have O := o.reval (d := 8) (c := []) (v := .bool (decide (a > 0))) (by kernel_rfl) (.bool true) (by rw [h]); clear o
  refine bt O f 3 [] [9, 10, 11] [(9, .slice ao1 u0.length cap2), (11, i6 (w64 (a - 1)))] ?_; intro aG u; clear O
  obtain ⟨ak, P⟩ := aj
  refine ix u (T := (tyInt .u32)) (xs := u0) hs3 (w64 (a - 1)) ak (k := .i64) (e := 143) (bytes := 4) (by rw [wanted_of u (b := true) rfl rfl (by kernel_rfl) (by kernel_rfl)]; rfl) rfl (by kernel_rfl) rfl (by kernel_rfl) (by kernel_rfl) (by kernel_rfl) ?_; intro aH aI al i aJ am an ao p; clear u
  have q := P i am; clear P
  obtain rfl : al = ([.int .u32 i] : List Value) := ao
  refine st p (.int .u32 i) (by rw [wanted_of p (b := true) rfl rfl (by kernel_rfl) (by kernel_rfl)]; rfl) rfl (by kernel_rfl) (lz p f.fz an 0 (g := []) rfl (by kernel_rfl) (by kernel_rfl) (by kernel_rfl) rfl) ?_; intro aK Q; clear p
  refine bt Q f 2 [] [14, 15] [(15, .bool (i == 0))] ?_; intro aL j; clear Q
  refine nlH (n _ _ ?_); clear n N
  refine cd j (t := i == 0) (by kernel_rfl) (fun x => ?_) (fun x => ?_)
  · -- yes
   have R := q.1 x; clear q
   refine wp_skip ?_
   refine thn ?_
   refine wp_block ?_
   refine rgB j f [] [] [(3, i6 (w64 (a - 1)))] ?_; intro aM ap; clear j
   refine ibn ?_
   refine rd ?_
   exact ⟨w64 (a - 1), R.1, R.2, (ap.region (by kernel_rfl) (by kernel_rfl)).anyβ _ (by kernel_rfl), f.keep (List.Sublist.slnil)⟩
  · -- no
   have aq := q.2 x; clear q
   refine wp_exit ?_
   refine thx ?_
   refine thx ?_
   refine ibx ?_
   refine thn ?_
   refine sqH ?_; intro ar S
   refine bt j f 2 [] [] [(18, .slice ao1 u0.length cap2), (19, i6 a)] ?_; intro aN U; clear j
   obtain ⟨au, av⟩ := aq
   refine slH U (T := (tyInt .u32)) (xs := u0) hs3 a au (k' := .i64) (e := 143) (bytes := 4) (nog rfl _) rfl (by kernel_rfl) rfl (by kernel_rfl) (by kernel_rfl) (by kernel_rfl) ?_; intro y z aO aP aw V; clear U
   refine s1 V 2 (.slice y (u0.take a.toNat).length z) ?_; intro aQ ax; clear V
   refine nlH (S _ _ ?_); clear S ar
   refine wp_ret ?_
   refine ra1 ax (.slice y (u0.take a.toNat).length z) ?_
   exact ⟨u0.take a.toNat, y, z, Z, rfl, av, aw, f.keep (List.Sublist.slnil)⟩
 · -- false
  have ay := m.2 h; clear m
  have W := o.reval (d := 8) (c := []) (v := .bool (decide (a > 0))) (by kernel_rfl) (.bool false) (by rw [h]); clear o
  refine bt W f 7 [] [9, 10, 11, 12, 13, 14, 15] [(15, .bool false)] ?_; intro aR A; clear W
  refine nlH (n _ _ ?_); clear n N
  refine cdF A (by kernel_rfl) ?_
  refine wp_exit ?_
  refine thx ?_
  refine thx ?_
  refine ibx ?_
  refine thn ?_
  refine sqH ?_; intro az X
  refine bt A f 2 [] [] [(18, .slice ao1 u0.length cap2), (19, i6 a)] ?_; intro aS Y; clear A
  obtain ⟨aA, aB⟩ := ay
  refine slH Y (T := (tyInt .u32)) (xs := u0) hs3 a aA (k' := .i64) (e := 143) (bytes := 4) (nog rfl _) rfl (by kernel_rfl) rfl (by kernel_rfl) (by kernel_rfl) (by kernel_rfl) ?_; intro B C aT aU aC aa; clear Y
  refine s1 aa 2 (.slice B (u0.take a.toNat).length C) ?_; intro aV aD; clear aa
  refine nlH (X _ _ ?_); clear X az
  refine wp_ret ?_
  refine ra1 aD (.slice B (u0.take a.toNat).length C) ?_
  exact ⟨u0.take a.toNat, B, C, Z, rfl, aB, aC, f.keep (List.Sublist.slnil)⟩

theorem glength_walk (u0 : List Int) (ao1 : Option Addr) (cap2 : Nat) (Z : Fz) (w : World) (hs3 : SlR (tyInt .u32) Z ao1 cap2 u0) (hZ : Z.on w) {K : Int → Prop} (hp : glength_vc u0 K) : Calls Tryz.prog 108 #[.slice ao1 u0.length cap2] w fun e w' => ∃ r : Int, e = .returned (i6 r) ∧ K r ∧ Below w.heap.size w w' := by
 refine enter0 Tryz.func108 rfl rfl (by kernel_rfl) ?_; intro a0 n; have a := Mem.start w Z hZ; have af := Fz.le.refl Z
 have i := hp (hs3.small); clear hp
 refine sqB n a [] [] [] ?_; intro a6 o; clear n
 refine wp_seq ?_
 refine sqB o a [] [] [(7, .bool ((u0.length : Int) == 0))] ?_; intro ag g; clear o
 refine cd g (t := (u0.length : Int) == 0) (by kernel_rfl) (fun l => ?_) (fun l => ?_)
 · -- yes
  have I := i.1 l; clear i
  refine sqB g a [] [] [(2, i6 0)] ?_; intro ah J; clear g
  refine wp_ret ?_
  refine thr ?_
  refine ra1 J (i6 0) ?_
  exact ⟨0, rfl, I, a.below⟩
 · -- no
  have L := i.2 l; clear i
  refine wp_skip ?_
  refine thn ?_
  refine sqB g a [] [] [(3, i6 0)] ?_; intro ai p; clear g
  refine wp_seq ?_
  refine sqH ?_; intro M q
  refine bt p a 4 [] [] [(8, .slice ao1 u0.length cap2), (11, i6 (w64 ((u0.length : Int) - 1)))] ?_; intro aj u; clear p
  obtain ⟨N, v⟩ := L
  refine ix u (T := (tyInt .u32)) (xs := u0) hs3 (w64 ((u0.length : Int) - 1)) N (k := .i64) (e := 143) (bytes := 4) (nog rfl _) rfl (by kernel_rfl) rfl (by kernel_rfl) (by kernel_rfl) (by kernel_rfl) ?_; intro ak al O b am P Q R x; clear u
  have S := v b P; clear v
  obtain rfl : O = ([.int .u32 b] : List Value) := R
  refine z1 x a 13 Q 0 (.int .u32 b) rfl ?_; intro an y; clear x
  refine s1 y 4 (.int .u32 b) ?_; intro z A; clear y
  refine nlH (q _ _ ?_); clear q M
  refine wp_block ?_
  have B : Fr 26 [] [⟨0, [], .slice ao1 u0.length cap2⟩, ⟨3, [], i6 0⟩, ⟨4, [], .int .u32 b⟩] z := A.region (by kernel_rfl) (by kernel_rfl); clear A
  have C : Fr 26 [] [⟨0, [], .slice ao1 u0.length cap2⟩, ⟨3, [], i6 0⟩, ⟨4, [], .int .u32 b⟩] z := B.region (by kernel_rfl) (by kernel_rfl); clear B
  obtain ⟨U, V, W, X⟩ := S
  refine lp (ι := Int × Int) (fun (s : Int × Int) => [⟨0, [], .slice ao1 u0.length cap2⟩, ⟨3, [], i6 s.1⟩, ⟨4, [], .int .u32 s.2⟩]) (fun (s : Int × Int) => []) (fun (s : Int × Int) => Z) (fun (s : Int × Int) => U s.1 s.2) (fun (s : Int × Int) => V s.1 s.2) ⟨0, b⟩ W (by exact C.region (by kernel_rfl) (by kernel_rfl)) (by exact a) ?_
  rintro ⟨c, d⟩ Y aa ab D E
  have F : Fr 26 [] [⟨0, [], .slice ao1 u0.length cap2⟩, ⟨3, [], i6 c⟩, ⟨4, [], .int .u32 d⟩] aa := D; clear D C
  have f : Mem w.heap.size [] w Z [] Z ab := E; clear E a
  have j := X c d Y
  refine wp_seq ?_
  refine sqB F f [] [] [(15, .bool (d != 0))] ?_; intro ao h; clear F
  refine cd h (t := d != 0) (by kernel_rfl) (fun m => ?_) (fun m => ?_)
  · -- yes
   have G := j.1 m; clear j
   refine wp_skip ?_
   refine thn ?_
   refine wp_seq ?_
   refine wp_block ?_
   refine rgB h f [] [] [(3, i6 (w64 (c + 1)))] ?_; intro ap H; clear h
   refine ibn ?_
   refine thn ?_
   refine rgB H f [] [] [(4, .int .u32 (bShr .u32 d 1))] ?_; intro aq ac; clear H
   refine rd ?_
   exact ⟨⟨w64 (c + 1), bShr .u32 d 1⟩, G.1, G.2, (ac.region (by kernel_rfl) (by kernel_rfl)).anyβ _ (by kernel_rfl), f.keep (List.Sublist.slnil)⟩
  · -- no
   have ad := j.2 m; clear j
   refine wp_exit ?_
   refine thx ?_
   refine thx ?_
   refine ibx ?_
   refine thn ?_
   refine sqB h f [] [] [(2, i6 (w64 ((w64 ((w64 ((u0.length : Int) - 1)) * 32)) + c)))] ?_; intro ar ae; clear h
   refine wp_ret ?_
   refine ra1 ae (i6 (w64 ((w64 ((w64 ((u0.length : Int) - 1)) * 32)) + c))) ?_
   exact ⟨w64 ((w64 ((w64 ((u0.length : Int) - 1)) * 32)) + c), rfl, ad, f.below⟩

end Go.Proofs.YtmbdcehmeiiaoaaGreatDoor
set_option linter.unusedVariables false
set_option linter.unusedSimpArgs false
set_option maxRecDepth 100000
set_option maxHeartbeats 0
namespace Go.Proofs.YtmbdcehmeiiaoaaGreatDoor
open Go.Sy Go.RowKit
theorem gtrim_fun (u0 : List Int) (ao1 : Option Addr) (cap2 : Nat) (Z : Fz) (w : World) (hs3 : SlR (tyInt .u32) Z ao1 cap2 u0) (hZ : Z.on w) : Calls Tryz.prog 126 #[.slice ao1 u0.length cap2] w fun e w' => ∃ (ao1001 : Option Addr) (cap1002 : Nat) (Z' : Fz), e = .returned (.slice ao1001 (gtrimS u0).length cap1002) ∧ SlR (tyInt .u32) Z' ao1001 cap1002 (gtrimS u0) ∧ Mem w.heap.size [] w Z [] Z' w' :=
  (gtrim_walk u0 ao1 cap2 Z w hs3 hZ (gtrim_ok u0)).mono fun _ _ ⟨r, h0, h1, h2, he, hk, f0, hm⟩ => by subst hk; exact ⟨h0, h1, h2, he, f0, hm⟩

theorem glength_fun (u0 : List Int) (hpre : u0 = ws (wv u0) ∧ u0.length ≤ 1000000) (ao1 : Option Addr) (cap2 : Nat) (Z : Fz) (w : World) (hs3 : SlR (tyInt .u32) Z ao1 cap2 u0) (hZ : Z.on w) : Calls Tryz.prog 108 #[.slice ao1 u0.length cap2] w fun e w' => e = .returned (i6 (glengthS u0)) ∧ Below w.heap.size w w' :=
  (glength_walk u0 ao1 cap2 Z w hs3 hZ (glength_ok u0 hpre)).mono fun _ _ ⟨r, he, hk, hb⟩ => ⟨by subst hk; exact he, hb⟩

theorem gtwin_walk (u0 : List Int) (ao1 : Option Addr) (cap2 : Nat) (Z : Fz) (w : World) (hs3 : SlR (tyInt .u32) Z ao1 cap2 u0) (hZ : Z.on w) {K : (List Int) → Prop} (hp : gtwin_vc u0 K) : Calls Tryz.prog 127 #[.slice ao1 u0.length cap2] w fun e w' => ∃ (r : (List Int)) (ao1001 : Option Addr) (cap1002 : Nat) (Z' : Fz), e = .returned (.slice ao1001 r.length cap1002) ∧ K r ∧ Mem w.heap.size [] w Z [.own (tyInt .u32) 143 ao1001 cap1002 r] Z' w' := by
 refine enter0 Tryz.func127 rfl rfl (by kernel_rfl) ?_; intro u f; have c := Mem.start w Z hZ; have v := Fz.le.refl Z
 have l := hp (hs3.small); clear hp
 refine sqB f c [] [] [] ?_; intro x g; clear f
 refine sqH ?_; intro m h
 refine s1 g 3 (.slice ao1 u0.length cap2) ?_; intro y i; clear g
 have d : Mem w.heap.size [] w Z [.own (tyInt .u32) 143 none 0 ([] : List Int)] Z w := c.addNil (tyInt .u32) 143 (by decide); clear c
 obtain ⟨n, o⟩ := l
 refine ap i d 0 (T := (tyInt .u32)) (xs := ([] : List Int)) (ys := u0) (ao := none) (cap := 0) (ao2 := ao1) (cap2 := cap2) (t := 115) (e := 143) (bytes := 4) (nog rfl _) rfl (by kernel_rfl) rfl (by kernel_rfl) (by kernel_rfl) (by kernel_rfl) rfl (Src.fz (by decide) d.fz hs3) n ?_; intro a b z p A j k; clear i d
 have q : Mem w.heap.size [] w Z [.own (tyInt .u32) 143 a b (([] : List Int) ++ u0)] Z p := k; clear k
 refine s1 j 2 (.slice a (([] : List Int) ++ u0).length b) ?_; intro B s; clear j
 refine nlH (h _ _ ?_); clear h m
 refine wp_ret ?_
 refine ra1 s (.slice a (([] : List Int) ++ u0).length b) ?_
 exact ⟨([] : List Int) ++ u0, a, b, Z, rfl, o, q.keep (List.Sublist.cons_cons _ (List.Sublist.slnil))⟩

theorem gwords_walk (u0 : Int)  (Z : Fz) (w : World)  (hZ : Z.on w) {K : (List Int) → Prop} (hp : gwords_vc u0 K) : Calls Tryz.prog 125 #[y6 u0] w fun e w' => ∃ (r : (List Int)) (ao1001 : Option Addr) (cap1002 : Nat) (Z' : Fz), e = .returned (.slice ao1001 r.length cap1002) ∧ K r ∧ SlR (tyInt .u32) Z' ao1001 cap1002 r ∧ Mem w.heap.size [] w Z [] Z' w' := by
 refine enter0 Tryz.func125 rfl rfl (by kernel_rfl) ?_; intro H j; have a := Mem.start w Z hZ; have c := Fz.le.refl Z
 refine sqB j a [] [] [] ?_; intro I k; clear j
 refine sqH ?_; intro z l
 refine bt k a 5 [] [] [(4, .int .u32 (wu32 u0)), (7, .int .u32 (wu32 (bShr .u64 u0 32)))] ?_; intro J m; clear k
 refine nw m a (fun b => .slice (sm b) 2 2) [.int .u32 (wu32 u0), .int .u32 (wu32 (bShr .u64 u0 32))] 143 ?_; intro d L n o p; clear m a
 have A : Mem w.heap.size [] w Z [.own (tyInt .u32) 143 (sm d) 2 ([wu32 u0, wu32 (bShr .u64 u0 32)] : List Int)] Z n := p.rowOwn (T := (tyInt .u32)) (xs := ([wu32 u0, wu32 (bShr .u64 u0 32)] : List Int)) 0 rfl (by decide) (by show 2 ≤ lim; decide) ((RepAll.one (T := (tyInt .u32)) (x := wu32 u0) rfl).append (RepAll.one (T := (tyInt .u32)) (x := wu32 (bShr .u64 u0 32)) rfl)); clear p
 obtain ⟨B, C, q, f⟩ := A.freeze 0 rfl
 replace c := Fz.le.trans c C
 have g : Mem w.heap.size [] w Z [] B n := q; clear q
 refine ck o 126 #[.slice (sm d) ([wu32 u0, wu32 (bShr .u64 u0 32)] : List Int).length 2] ?_
 refine (gtrim_fun ([wu32 u0, wu32 (bShr .u64 u0 32)] : List Int) (sm d) 2 _ _ f g.fz).mono ?_; rintro _ D ⟨h, i, s, rfl, t, hm⟩; refine ⟨_, rfl, ?_⟩; intro M u; have v := g.callZ hm; have y := hm.ext.le; clear hm g o
 replace f := f.mono y
 replace c := Fz.le.trans c y
 have E : Mem w.heap.size [] w Z [] s D := v; clear v
 have F := hp (t.small); clear hp
 refine s1 u 2 (.slice h (gtrimS ([wu32 u0, wu32 (bShr .u64 u0 32)] : List Int)).length i) ?_; intro N G; clear u
 refine nlH (l _ _ ?_); clear l z
 refine wp_ret ?_
 refine ra1 G (.slice h (gtrimS ([wu32 u0, wu32 (bShr .u64 u0 32)] : List Int)).length i) ?_
 exact ⟨(gtrimS ([wu32 u0, wu32 (bShr .u64 u0 32)] : List Int)), h, i, s, rfl, F, t, E.keep (List.Sublist.slnil)⟩

theorem gadd_walk (u0 : List Int) (u1 : List Int) (ao1 : Option Addr) (cap2 : Nat) (ao4 : Option Addr) (cap5 : Nat) (Z : Fz) (w : World) (hs3 : SlR (tyInt .u32) Z ao1 cap2 u0) (hs6 : SlR (tyInt .u32) Z ao4 cap5 u1) (hZ : Z.on w) {K : (List Int) → Prop} (hp : gadd_vc u0 u1 K) : Calls Tryz.prog 123 #[.slice ao1 u0.length cap2, .slice ao4 u1.length cap5] w fun e w' => ∃ (r : (List Int)) (ao1001 : Option Addr) (cap1002 : Nat) (Z' : Fz), e = .returned (.slice ao1001 r.length cap1002) ∧ K r ∧ SlR (tyInt .u32) Z' ao1001 cap1002 r ∧ Mem w.heap.size [] w Z [] Z' w' := by
 refine enter0 Tryz.func123 rfl rfl (by kernel_rfl) ?_; intro a0 au; have o := Mem.start w Z hZ; have p := Fz.le.refl Z
 have av := hp (hs3.small); clear hp
 have B := av (hs6.small); clear av
 refine sqB au o [] [] [] ?_; intro ee aw; clear au
 refine wp_seq ?_
 refine sqB aw o [] [] [(12, .bool (decide ((u0.length : Int) < (u1.length : Int))))] ?_; intro ef q; clear aw
 refine cd q (t := decide ((u0.length : Int) < (u1.length : Int))) (by kernel_rfl) (fun Y => ?_) (fun Y => ?_)
 ·
  have cB := B.1 Y; clear B
  refine rgB q o [] [] [(0, .slice ao4 u1.length cap5), (1, .slice ao1 u0.length cap2)] ?_; intro eg ax; clear q
  refine thn ?_
  refine sqH ?_; intro cC ay
  refine bt ax o 3 [] [] [(17, i6 (w64 ((u1.length : Int) + 1)))] ?_; intro eh az; clear ax
  obtain ⟨ei, cD⟩ := cB
  refine mks az o (T := (tyInt .u32)) (w64 ((u1.length : Int) + 1)) (w64 ((u1.length : Int) + 1)) (k := .i64) (k' := .i64) (e := 143) (bytes := 4) (zs := [.int .u32 0]) (z := 0) (by simp only [lim]; omega) (nog rfl _) rfl (by kernel_rfl) rfl (by kernel_rfl) (by kernel_rfl) (by kernel_rfl) (by kernel_rfl) rfl ?_; intro c ej cE aA aB; clear az o
  have C : Mem w.heap.size [] w Z [.own (tyInt .u32) 143 (sm c) ((w64 ((u1.length : Int) + 1)).toNat) (List.replicate (w64 ((u1.length : Int) + 1)).toNat (0 : Int))] Z cE := aB; clear aB
  refine s1 aA 5 (.slice (sm c) (List.replicate (w64 ((u1.length : Int) + 1)).toNat (0 : Int)).length ((w64 ((u1.length : Int) + 1)).toNat)) ?_; intro ek aC; clear aA
  refine nlH (ay _ _ ?_); clear ay cC
  refine sqB aC C [] [] [(6, y6 0)] ?_; intro el aD; clear aC
  refine wp_seq ?_
  refine sqB aD C [] [] [(7, i6 0)] ?_; intro aE aF; clear aD
  refine wp_block ?_
  have aG : Fr 58 [] [⟨0, [], .slice ao4 u1.length cap5⟩, ⟨1, [], .slice ao1 u0.length cap2⟩, ⟨5, [], .slice (sm c) (List.replicate (w64 ((u1.length : Int) + 1)).toNat (0 : Int)).length ((w64 ((u1.length : Int) + 1)).toNat)⟩, ⟨6, [], y6 0⟩, ⟨7, [], i6 0⟩] aE := aF.reg; clear aF
  have aH : Fr 58 [] [⟨0, [], .slice ao4 u1.length cap5⟩, ⟨1, [], .slice ao1 u0.length cap2⟩, ⟨5, [], .slice (sm c) (List.replicate (w64 ((u1.length : Int) + 1)).toNat (0 : Int)).length ((w64 ((u1.length : Int) + 1)).toNat)⟩, ⟨6, [], y6 0⟩, ⟨7, [], i6 0⟩] aE := aG.reg; clear aG
  obtain ⟨cF, cG, cH, cI⟩ := cD
  refine lp (ι := Int × Int × (List Int)) (fun (s : Int × Int × (List Int)) => [⟨0, [], .slice ao4 u1.length cap5⟩, ⟨1, [], .slice ao1 u0.length cap2⟩, ⟨5, [], .slice (sm c) s.2.2.length ((w64 ((u1.length : Int) + 1)).toNat)⟩, ⟨6, [], y6 s.1⟩, ⟨7, [], i6 s.2.1⟩]) (fun (s : Int × Int × (List Int)) => [.own (tyInt .u32) 143 (sm c) ((w64 ((u1.length : Int) + 1)).toNat) s.2.2]) (fun (s : Int × Int × (List Int)) => Z) (fun (s : Int × Int × (List Int)) => cF s.1 s.2.1 s.2.2) (fun (s : Int × Int × (List Int)) => cG s.1 s.2.1 s.2.2) ⟨0, 0, (List.replicate (w64 ((u1.length : Int) + 1)).toNat (0 : Int))⟩ cH (by exact aH.reg) (by exact C) ?_
  rintro ⟨b, a, f⟩ cJ cK D aI aJ
  have aK : Fr 58 [] [⟨0, [], .slice ao4 u1.length cap5⟩, ⟨1, [], .slice ao1 u0.length cap2⟩, ⟨5, [], .slice (sm c) f.length ((w64 ((u1.length : Int) + 1)).toNat)⟩, ⟨6, [], y6 b⟩, ⟨7, [], i6 a⟩] cK := aI; clear aI aH
  have j : Mem w.heap.size [] w Z [.own (tyInt .u32) 143 (sm c) ((w64 ((u1.length : Int) + 1)).toNat) f] Z D := aJ; clear aJ C
  have E := cI b a f cJ
  refine wp_seq ?_
  refine sqB aK j [] [] [(22, .bool (decide (a < (u1.length : Int))))] ?_; intro em v; clear aK
  refine cd v (t := decide (a < (u1.length : Int))) (by kernel_rfl) (fun aa => ?_) (fun aa => ?_)
  ·
   have cL := E.1 aa; clear E
   refine wp_skip ?_
   refine thn ?_
   refine wp_seq ?_
   refine wp_block ?_
   refine sqH ?_; intro cM aL
   refine bt v j 3 [] [] [(25, y6 b), (26, .slice ao4 u1.length cap5), (27, i6 a)] ?_; intro en aM; clear v
   obtain ⟨cN, aN⟩ := cL
   refine ix aM (T := (tyInt .u32)) (xs := u1) hs6 a cN (k := .i64) (e := 143) (bytes := 4) (nog rfl _) rfl (by kernel_rfl) rfl (by kernel_rfl) (by kernel_rfl) (by kernel_rfl) ?_; intro F G cO g eo cP cQ cR aO; clear aM
   have H := aN g cP; clear aN
   obtain rfl : cO = ([.int .u32 g] : List Value) := cR
   refine z1 aO j 29 cQ 0 (.int .u32 g) rfl ?_; intro ep aP; clear aO
   refine bt aP j 3 [] [] [(6, y6 (wu64 (b + (wu64 g))))] ?_; intro eq aQ; clear aP
   refine nlH (aL _ _ ?_); clear aL cM
   refine wp_seq ?_
   refine sqB aQ j [] [] [(35, .bool (decide (a < (u0.length : Int))))] ?_; intro er x; clear aQ
   refine cd x (t := decide (a < (u0.length : Int))) (by kernel_rfl) (fun ab => ?_) (fun ab => ?_)
   ·
    have cS := H.1 ab; clear H
    refine rgH ?_; intro cT aR
    refine bt x j 3 [] [] [(36, y6 (wu64 (b + (wu64 g)))), (37, .slice ao1 u0.length cap2), (38, i6 a)] ?_; intro es aS; clear x
    obtain ⟨cU, aT⟩ := cS
    refine ix aS (T := (tyInt .u32)) (xs := u0) hs3 a cU (k := .i64) (e := 143) (bytes := 4) (nog rfl _) rfl (by kernel_rfl) rfl (by kernel_rfl) (by kernel_rfl) (by kernel_rfl) ?_; intro aU aV cV m et cW cX cY aW; clear aS
    have cZ := aT m cW; clear aT
    obtain rfl : cV = ([.int .u32 m] : List Value) := cY
    refine z1 aW j 40 cX 0 (.int .u32 m) rfl ?_; intro eu aX; clear aW
    refine bt aX j 3 [] [] [(6, y6 (wu64 ((wu64 (b + (wu64 g))) + (wu64 m))))] ?_; intro ev aY; clear aX
    refine nlH (aR _ _ ?_); clear aR cT
    refine thn ?_
    refine sqH ?_; intro c0 aZ
    refine bt aY j 4 [] [] [(43, .slice (sm c) f.length ((w64 ((u1.length : Int) + 1)).toNat)), (44, i6 a), (46, .int .u32 (wu32 (wu64 ((wu64 (b + (wu64 g))) + (wu64 m)))))] ?_; intro ew a1; clear aY
    obtain ⟨c1, a2⟩ := cZ
    refine ixo a1 j 0 (T := (tyInt .u32)) (xs := f) a c1 (k := .i64) (e := 143) (bytes := 4) (nog rfl _) rfl (by kernel_rfl) rfl (by kernel_rfl) (by kernel_rfl) rfl (by kernel_rfl) ?_; intro c2 a3 c3 a4; clear a1
    obtain rfl : c = c2 := by simpa using c3
    have I : Fr 58 [] [⟨0, [], .slice ao4 u1.length cap5⟩, ⟨1, [], .slice ao1 u0.length cap2⟩, ⟨5, [], .slice (sm c) f.length ((w64 ((u1.length : Int) + 1)).toNat)⟩, ⟨6, [], y6 (wu64 ((wu64 (b + (wu64 g))) + (wu64 m)))⟩, ⟨7, [], i6 a⟩, ⟨22, [], .bool (decide (a < (u1.length : Int)))⟩, ⟨25, [], y6 b⟩, ⟨26, [], .slice ao4 u1.length cap5⟩, ⟨27, [], i6 a⟩, ⟨28, [], pt F G⟩, ⟨29, [], .int .u32 g⟩, ⟨35, [], .bool (decide (a < (u0.length : Int)))⟩, ⟨36, [], y6 (wu64 (b + (wu64 g)))⟩, ⟨37, [], .slice ao1 u0.length cap2⟩, ⟨38, [], i6 a⟩, ⟨39, [], pt aU aV⟩, ⟨40, [], .int .u32 m⟩, ⟨43, [], .slice (sm c) f.length ((w64 ((u1.length : Int) + 1)).toNat)⟩, ⟨44, [], i6 a⟩, ⟨46, [], .int .u32 (wu32 (wu64 ((wu64 (b + (wu64 g))) + (wu64 m))))⟩, ⟨47, [], .pointer (some ⟨c, a.toNat * 1, none⟩)⟩] a3 := a4.reg; clear a4
    have a5 : Mem w.heap.size [] w Z [.own (tyInt .u32) 143 (sm c) ((w64 ((u1.length : Int) + 1)).toNat) f] Z D := j; clear j
    refine so I a5 0 (T := (tyInt .u32)) (xs := f) a.toNat (wu32 (wu64 ((wu64 (b + (wu64 g))) + (wu64 m)))) (u := .int .u32 (wu32 (wu64 ((wu64 (b + (wu64 g))) + (wu64 m))))) (nog rfl _) rfl rfl (by kernel_rfl) rfl (by kernel_rfl) rfl (by kernel_rfl) (by first | omega | (simp only [List.length_set] at *; omega)) rfl ?_; intro c4 a6; clear a5
    have a7 : Fr 58 [] [⟨0, [], .slice ao4 u1.length cap5⟩, ⟨1, [], .slice ao1 u0.length cap2⟩, ⟨5, [], .slice (sm c) (f.set a.toNat (wu32 (wu64 ((wu64 (b + (wu64 g))) + (wu64 m))))).length ((w64 ((u1.length : Int) + 1)).toNat)⟩, ⟨6, [], y6 (wu64 ((wu64 (b + (wu64 g))) + (wu64 m)))⟩, ⟨7, [], i6 a⟩, ⟨22, [], .bool (decide (a < (u1.length : Int)))⟩, ⟨25, [], y6 b⟩, ⟨26, [], .slice ao4 u1.length cap5⟩, ⟨27, [], i6 a⟩, ⟨28, [], pt F G⟩, ⟨29, [], .int .u32 g⟩, ⟨35, [], .bool (decide (a < (u0.length : Int)))⟩, ⟨36, [], y6 (wu64 (b + (wu64 g)))⟩, ⟨37, [], .slice ao1 u0.length cap2⟩, ⟨38, [], i6 a⟩, ⟨39, [], pt aU aV⟩, ⟨40, [], .int .u32 m⟩, ⟨43, [], .slice (sm c) (f.set a.toNat (wu32 (wu64 ((wu64 (b + (wu64 g))) + (wu64 m))))).length ((w64 ((u1.length : Int) + 1)).toNat)⟩, ⟨44, [], i6 a⟩, ⟨46, [], .int .u32 (wu32 (wu64 ((wu64 (b + (wu64 g))) + (wu64 m))))⟩, ⟨47, [], .pointer (some ⟨c, a.toNat * 1, none⟩)⟩] a3 := by (try simp only [List.length_set] at I); (try simp only [List.length_set]); exact I.reg
    clear I
    have ac : Mem w.heap.size [] w Z [.own (tyInt .u32) 143 (sm c) ((w64 ((u1.length : Int) + 1)).toNat) (f.set a.toNat (wu32 (wu64 ((wu64 (b + (wu64 g))) + (wu64 m)))))] Z c4 := a6; clear a6
    refine nlH (aZ _ _ ?_); clear aZ c0
    refine rgB a7 ac [] [] [(6, y6 (bShr .u64 (wu64 ((wu64 (b + (wu64 g))) + (wu64 m))) 32))] ?_; intro ex a8; clear a7
    refine ibn ?_
    refine thn ?_
    refine rgB a8 ac [] [] [(7, i6 (w64 (a + 1)))] ?_; intro ey c5; clear a8
    refine rd ?_
    exact ⟨⟨bShr .u64 (wu64 ((wu64 (b + (wu64 g))) + (wu64 m))) 32, w64 (a + 1), f.set a.toNat (wu32 (wu64 ((wu64 (b + (wu64 g))) + (wu64 m))))⟩, a2.1, a2.2, (c5.reg).anyβ _ (by kernel_rfl), ac.keep (List.Sublist.cons_cons _ (List.Sublist.slnil))⟩
   have c6 := H.2 ab; clear H
   refine wp_skip ?_
   refine thn ?_
   refine sqH ?_; intro c7 a9
   refine bt x j 4 [] [] [(43, .slice (sm c) f.length ((w64 ((u1.length : Int) + 1)).toNat)), (44, i6 a), (46, .int .u32 (wu32 (wu64 (b + (wu64 g)))))] ?_; intro ez ba; clear x
   obtain ⟨c8, bb⟩ := c6
   refine ixo ba j 0 (T := (tyInt .u32)) (xs := f) a c8 (k := .i64) (e := 143) (bytes := 4) (nog rfl _) rfl (by kernel_rfl) rfl (by kernel_rfl) (by kernel_rfl) rfl (by kernel_rfl) ?_; intro c9 bc da bd; clear ba
   obtain rfl : c = c9 := by simpa using da
   have J : Fr 58 [] [⟨0, [], .slice ao4 u1.length cap5⟩, ⟨1, [], .slice ao1 u0.length cap2⟩, ⟨5, [], .slice (sm c) f.length ((w64 ((u1.length : Int) + 1)).toNat)⟩, ⟨6, [], y6 (wu64 (b + (wu64 g)))⟩, ⟨7, [], i6 a⟩, ⟨22, [], .bool (decide (a < (u1.length : Int)))⟩, ⟨25, [], y6 b⟩, ⟨26, [], .slice ao4 u1.length cap5⟩, ⟨27, [], i6 a⟩, ⟨28, [], pt F G⟩, ⟨29, [], .int .u32 g⟩, ⟨35, [], .bool (decide (a < (u0.length : Int)))⟩, ⟨43, [], .slice (sm c) f.length ((w64 ((u1.length : Int) + 1)).toNat)⟩, ⟨44, [], i6 a⟩, ⟨46, [], .int .u32 (wu32 (wu64 (b + (wu64 g))))⟩, ⟨47, [], .pointer (some ⟨c, a.toNat * 1, none⟩)⟩] bc := bd.reg; clear bd
   have be : Mem w.heap.size [] w Z [.own (tyInt .u32) 143 (sm c) ((w64 ((u1.length : Int) + 1)).toNat) f] Z D := j; clear j
   refine so J be 0 (T := (tyInt .u32)) (xs := f) a.toNat (wu32 (wu64 (b + (wu64 g)))) (u := .int .u32 (wu32 (wu64 (b + (wu64 g))))) (nog rfl _) rfl rfl (by kernel_rfl) rfl (by kernel_rfl) rfl (by kernel_rfl) (by first | omega | (simp only [List.length_set] at *; omega)) rfl ?_; intro db bf; clear be
   have bg : Fr 58 [] [⟨0, [], .slice ao4 u1.length cap5⟩, ⟨1, [], .slice ao1 u0.length cap2⟩, ⟨5, [], .slice (sm c) (f.set a.toNat (wu32 (wu64 (b + (wu64 g))))).length ((w64 ((u1.length : Int) + 1)).toNat)⟩, ⟨6, [], y6 (wu64 (b + (wu64 g)))⟩, ⟨7, [], i6 a⟩, ⟨22, [], .bool (decide (a < (u1.length : Int)))⟩, ⟨25, [], y6 b⟩, ⟨26, [], .slice ao4 u1.length cap5⟩, ⟨27, [], i6 a⟩, ⟨28, [], pt F G⟩, ⟨29, [], .int .u32 g⟩, ⟨35, [], .bool (decide (a < (u0.length : Int)))⟩, ⟨43, [], .slice (sm c) (f.set a.toNat (wu32 (wu64 (b + (wu64 g))))).length ((w64 ((u1.length : Int) + 1)).toNat)⟩, ⟨44, [], i6 a⟩, ⟨46, [], .int .u32 (wu32 (wu64 (b + (wu64 g))))⟩, ⟨47, [], .pointer (some ⟨c, a.toNat * 1, none⟩)⟩] bc := by (try simp only [List.length_set] at J); (try simp only [List.length_set]); exact J.reg
   clear J
   have ad : Mem w.heap.size [] w Z [.own (tyInt .u32) 143 (sm c) ((w64 ((u1.length : Int) + 1)).toNat) (f.set a.toNat (wu32 (wu64 (b + (wu64 g)))))] Z db := bf; clear bf
   refine nlH (a9 _ _ ?_); clear a9 c7
   refine rgB bg ad [] [] [(6, y6 (bShr .u64 (wu64 (b + (wu64 g))) 32))] ?_; intro eA bh; clear bg
   refine ibn ?_
   refine thn ?_
   refine rgB bh ad [] [] [(7, i6 (w64 (a + 1)))] ?_; intro eB dc; clear bh
   refine rd ?_
   exact ⟨⟨bShr .u64 (wu64 (b + (wu64 g))) 32, w64 (a + 1), f.set a.toNat (wu32 (wu64 (b + (wu64 g))))⟩, bb.1, bb.2, (dc.reg).anyβ _ (by kernel_rfl), ad.keep (List.Sublist.cons_cons _ (List.Sublist.slnil))⟩
  have dd := E.2 aa; clear E
  refine wp_exit ?_
  refine thx ?_
  refine thx ?_
  refine ibx ?_
  refine thn ?_
  refine sqH ?_; intro de bi
  refine bt v j 5 [] [] [(50, .slice (sm c) f.length ((w64 ((u1.length : Int) + 1)).toNat)), (52, i6 (u1.length : Int)), (54, .int .u32 (wu32 b))] ?_; intro eC bj; clear v
  obtain ⟨df, bk⟩ := dd
  refine ixo bj j 0 (T := (tyInt .u32)) (xs := f) (u1.length : Int) df (k := .i64) (e := 143) (bytes := 4) (nog rfl _) rfl (by kernel_rfl) rfl (by kernel_rfl) (by kernel_rfl) rfl (by kernel_rfl) ?_; intro dg bl dh bm; clear bj
  obtain rfl : c = dg := by simpa using dh
  have L : Fr 58 [] [⟨0, [], .slice ao4 u1.length cap5⟩, ⟨1, [], .slice ao1 u0.length cap2⟩, ⟨5, [], .slice (sm c) f.length ((w64 ((u1.length : Int) + 1)).toNat)⟩, ⟨6, [], y6 b⟩, ⟨7, [], i6 a⟩, ⟨22, [], .bool (decide (a < (u1.length : Int)))⟩, ⟨50, [], .slice (sm c) f.length ((w64 ((u1.length : Int) + 1)).toNat)⟩, ⟨52, [], i6 (u1.length : Int)⟩, ⟨54, [], .int .u32 (wu32 b)⟩, ⟨55, [], .pointer (some ⟨c, (u1.length : Int).toNat * 1, none⟩)⟩] bl := bm.reg; clear bm
  have bn : Mem w.heap.size [] w Z [.own (tyInt .u32) 143 (sm c) ((w64 ((u1.length : Int) + 1)).toNat) f] Z D := j; clear j
  refine so L bn 0 (T := (tyInt .u32)) (xs := f) (u1.length : Int).toNat (wu32 b) (u := .int .u32 (wu32 b)) (nog rfl _) rfl rfl (by kernel_rfl) rfl (by kernel_rfl) rfl (by kernel_rfl) (by first | omega | (simp only [List.length_set] at *; omega)) rfl ?_; intro bo bp; clear bn
  have bq : Fr 58 [] [⟨0, [], .slice ao4 u1.length cap5⟩, ⟨1, [], .slice ao1 u0.length cap2⟩, ⟨5, [], .slice (sm c) (f.set (u1.length : Int).toNat (wu32 b)).length ((w64 ((u1.length : Int) + 1)).toNat)⟩, ⟨6, [], y6 b⟩, ⟨7, [], i6 a⟩, ⟨22, [], .bool (decide (a < (u1.length : Int)))⟩, ⟨50, [], .slice (sm c) (f.set (u1.length : Int).toNat (wu32 b)).length ((w64 ((u1.length : Int) + 1)).toNat)⟩, ⟨52, [], i6 (u1.length : Int)⟩, ⟨54, [], .int .u32 (wu32 b)⟩, ⟨55, [], .pointer (some ⟨c, (u1.length : Int).toNat * 1, none⟩)⟩] bl := by (try simp only [List.length_set] at L); (try simp only [List.length_set]); exact L.reg
  clear L
  have di : Mem w.heap.size [] w Z [.own (tyInt .u32) 143 (sm c) ((w64 ((u1.length : Int) + 1)).toNat) (f.set (u1.length : Int).toNat (wu32 b))] Z bo := bp; clear bp
  refine nlH (bi _ _ ?_); clear bi de
  refine sqH ?_; intro dj br
  refine s1 bq 56 (.slice (sm c) (f.set (u1.length : Int).toNat (wu32 b)).length ((w64 ((u1.length : Int) + 1)).toNat)) ?_; intro eD bs; clear bq
  obtain ⟨dk, ae, bu, af⟩ := di.freeze 0 rfl
  replace hs3 := hs3.mono ae
  replace hs6 := hs6.mono ae
  replace p := Fz.le.trans p ae
  have ag : Mem w.heap.size [] w Z [] dk bo := bu; clear bu
  refine ck bs 126 #[.slice (sm c) (f.set (u1.length : Int).toNat (wu32 b)).length ((w64 ((u1.length : Int) + 1)).toNat)] ?_
  refine (gtrim_fun (f.set (u1.length : Int).toNat (wu32 b)) (sm c) ((w64 ((u1.length : Int) + 1)).toNat) _ _ af ag.fz).mono ?_; rintro _ dl ⟨ah, ai, bv, rfl, bw, hm⟩; refine ⟨_, rfl, ?_⟩; intro eE bx; have bz := ag.callZ hm; have M := hm.ext.le; clear hm ag bs
  replace hs3 := hs3.mono M
  replace hs6 := hs6.mono M
  replace af := af.mono M
  replace p := Fz.le.trans p M
  have dm : Mem w.heap.size [] w Z [] bv dl := bz; clear bz
  have dn := bk (bw.small); clear bk
  refine s1 bx 4 (.slice ah (gtrimS (f.set (u1.length : Int).toNat (wu32 b))).length ai) ?_; intro eF dp; clear bx
  refine nlH (br _ _ ?_); clear br dj
  refine wp_ret ?_
  refine ra1 dp (.slice ah (gtrimS (f.set (u1.length : Int).toNat (wu32 b))).length ai) ?_
  exact ⟨(gtrimS (f.set (u1.length : Int).toNat (wu32 b))), ah, ai, bv, rfl, dn, bw, dm.keep (List.Sublist.slnil)⟩
 have dq := B.2 Y; clear B
 refine wp_skip ?_
 refine thn ?_
 refine sqH ?_; intro dr bA
 refine bt q o 3 [] [] [(17, i6 (w64 ((u0.length : Int) + 1)))] ?_; intro eG bB; clear q
 obtain ⟨eH, ds⟩ := dq
 refine mks bB o (T := (tyInt .u32)) (w64 ((u0.length : Int) + 1)) (w64 ((u0.length : Int) + 1)) (k := .i64) (k' := .i64) (e := 143) (bytes := 4) (zs := [.int .u32 0]) (z := 0) (by simp only [lim]; omega) (nog rfl _) rfl (by kernel_rfl) rfl (by kernel_rfl) (by kernel_rfl) (by kernel_rfl) (by kernel_rfl) rfl ?_; intro d eI dt bC bD; clear bB o
 have N : Mem w.heap.size [] w Z [.own (tyInt .u32) 143 (sm d) ((w64 ((u0.length : Int) + 1)).toNat) (List.replicate (w64 ((u0.length : Int) + 1)).toNat (0 : Int))] Z dt := bD; clear bD
 refine s1 bC 5 (.slice (sm d) (List.replicate (w64 ((u0.length : Int) + 1)).toNat (0 : Int)).length ((w64 ((u0.length : Int) + 1)).toNat)) ?_; intro eJ bE; clear bC
 refine nlH (bA _ _ ?_); clear bA dr
 refine sqB bE N [] [] [(6, y6 0)] ?_; intro eK bF; clear bE
 refine wp_seq ?_
 refine sqB bF N [] [] [(7, i6 0)] ?_; intro bG bH; clear bF
 refine wp_block ?_
 have bI : Fr 58 [] [⟨0, [], .slice ao1 u0.length cap2⟩, ⟨1, [], .slice ao4 u1.length cap5⟩, ⟨5, [], .slice (sm d) (List.replicate (w64 ((u0.length : Int) + 1)).toNat (0 : Int)).length ((w64 ((u0.length : Int) + 1)).toNat)⟩, ⟨6, [], y6 0⟩, ⟨7, [], i6 0⟩] bG := bH.reg; clear bH
 have bJ : Fr 58 [] [⟨0, [], .slice ao1 u0.length cap2⟩, ⟨1, [], .slice ao4 u1.length cap5⟩, ⟨5, [], .slice (sm d) (List.replicate (w64 ((u0.length : Int) + 1)).toNat (0 : Int)).length ((w64 ((u0.length : Int) + 1)).toNat)⟩, ⟨6, [], y6 0⟩, ⟨7, [], i6 0⟩] bG := bI.reg; clear bI
 obtain ⟨du, dv, dw, dx⟩ := ds
 refine lp (ι := Int × Int × (List Int)) (fun (s : Int × Int × (List Int)) => [⟨0, [], .slice ao1 u0.length cap2⟩, ⟨1, [], .slice ao4 u1.length cap5⟩, ⟨5, [], .slice (sm d) s.2.2.length ((w64 ((u0.length : Int) + 1)).toNat)⟩, ⟨6, [], y6 s.1⟩, ⟨7, [], i6 s.2.1⟩]) (fun (s : Int × Int × (List Int)) => [.own (tyInt .u32) 143 (sm d) ((w64 ((u0.length : Int) + 1)).toNat) s.2.2]) (fun (s : Int × Int × (List Int)) => Z) (fun (s : Int × Int × (List Int)) => du s.1 s.2.1 s.2.2) (fun (s : Int × Int × (List Int)) => dv s.1 s.2.1 s.2.2) ⟨0, 0, (List.replicate (w64 ((u0.length : Int) + 1)).toNat (0 : Int))⟩ dw (by exact bJ.reg) (by exact N) ?_
 rintro ⟨b, a, h⟩ dy dz O bK bL
 have bM : Fr 58 [] [⟨0, [], .slice ao1 u0.length cap2⟩, ⟨1, [], .slice ao4 u1.length cap5⟩, ⟨5, [], .slice (sm d) h.length ((w64 ((u0.length : Int) + 1)).toNat)⟩, ⟨6, [], y6 b⟩, ⟨7, [], i6 a⟩] dz := bK; clear bK bJ
 have l : Mem w.heap.size [] w Z [.own (tyInt .u32) 143 (sm d) ((w64 ((u0.length : Int) + 1)).toNat) h] Z O := bL; clear bL N
 have P := dx b a h dy
 refine wp_seq ?_
 refine sqB bM l [] [] [(22, .bool (decide (a < (u0.length : Int))))] ?_; intro eL y; clear bM
 refine cd y (t := decide (a < (u0.length : Int))) (by kernel_rfl) (fun aj => ?_) (fun aj => ?_)
 ·
  have dA := P.1 aj; clear P
  refine wp_skip ?_
  refine thn ?_
  refine wp_seq ?_
  refine wp_block ?_
  refine sqH ?_; intro dB bN
  refine bt y l 3 [] [] [(25, y6 b), (26, .slice ao1 u0.length cap2), (27, i6 a)] ?_; intro eM bO; clear y
  obtain ⟨dC, bP⟩ := dA
  refine ix bO (T := (tyInt .u32)) (xs := u0) hs3 a dC (k := .i64) (e := 143) (bytes := 4) (nog rfl _) rfl (by kernel_rfl) rfl (by kernel_rfl) (by kernel_rfl) (by kernel_rfl) ?_; intro Q R dD i eN dE dF dG bQ; clear bO
  have S := bP i dE; clear bP
  obtain rfl : dD = ([.int .u32 i] : List Value) := dG
  refine z1 bQ l 29 dF 0 (.int .u32 i) rfl ?_; intro eO bR; clear bQ
  refine bt bR l 3 [] [] [(6, y6 (wu64 (b + (wu64 i))))] ?_; intro eP bS; clear bR
  refine nlH (bN _ _ ?_); clear bN dB
  refine wp_seq ?_
  refine sqB bS l [] [] [(35, .bool (decide (a < (u1.length : Int))))] ?_; intro eQ A; clear bS
  refine cd A (t := decide (a < (u1.length : Int))) (by kernel_rfl) (fun ak => ?_) (fun ak => ?_)
  ·
   have dH := S.1 ak; clear S
   refine rgH ?_; intro dI bT
   refine bt A l 3 [] [] [(36, y6 (wu64 (b + (wu64 i)))), (37, .slice ao4 u1.length cap5), (38, i6 a)] ?_; intro eR bU; clear A
   obtain ⟨dJ, bV⟩ := dH
   refine ix bU (T := (tyInt .u32)) (xs := u1) hs6 a dJ (k := .i64) (e := 143) (bytes := 4) (nog rfl _) rfl (by kernel_rfl) rfl (by kernel_rfl) (by kernel_rfl) (by kernel_rfl) ?_; intro bW bX dK n eS dL dM dN bY; clear bU
   have dO := bV n dL; clear bV
   obtain rfl : dK = ([.int .u32 n] : List Value) := dN
   refine z1 bY l 40 dM 0 (.int .u32 n) rfl ?_; intro eT bZ; clear bY
   refine bt bZ l 3 [] [] [(6, y6 (wu64 ((wu64 (b + (wu64 i))) + (wu64 n))))] ?_; intro eU b0; clear bZ
   refine nlH (bT _ _ ?_); clear bT dI
   refine thn ?_
   refine sqH ?_; intro dP b1
   refine bt b0 l 4 [] [] [(43, .slice (sm d) h.length ((w64 ((u0.length : Int) + 1)).toNat)), (44, i6 a), (46, .int .u32 (wu32 (wu64 ((wu64 (b + (wu64 i))) + (wu64 n)))))] ?_; intro eV b2; clear b0
   obtain ⟨dQ, b3⟩ := dO
   refine ixo b2 l 0 (T := (tyInt .u32)) (xs := h) a dQ (k := .i64) (e := 143) (bytes := 4) (nog rfl _) rfl (by kernel_rfl) rfl (by kernel_rfl) (by kernel_rfl) rfl (by kernel_rfl) ?_; intro dR b4 dS b5; clear b2
   obtain rfl : d = dR := by simpa using dS
   have U : Fr 58 [] [⟨0, [], .slice ao1 u0.length cap2⟩, ⟨1, [], .slice ao4 u1.length cap5⟩, ⟨5, [], .slice (sm d) h.length ((w64 ((u0.length : Int) + 1)).toNat)⟩, ⟨6, [], y6 (wu64 ((wu64 (b + (wu64 i))) + (wu64 n)))⟩, ⟨7, [], i6 a⟩, ⟨22, [], .bool (decide (a < (u0.length : Int)))⟩, ⟨25, [], y6 b⟩, ⟨26, [], .slice ao1 u0.length cap2⟩, ⟨27, [], i6 a⟩, ⟨28, [], pt Q R⟩, ⟨29, [], .int .u32 i⟩, ⟨35, [], .bool (decide (a < (u1.length : Int)))⟩, ⟨36, [], y6 (wu64 (b + (wu64 i)))⟩, ⟨37, [], .slice ao4 u1.length cap5⟩, ⟨38, [], i6 a⟩, ⟨39, [], pt bW bX⟩, ⟨40, [], .int .u32 n⟩, ⟨43, [], .slice (sm d) h.length ((w64 ((u0.length : Int) + 1)).toNat)⟩, ⟨44, [], i6 a⟩, ⟨46, [], .int .u32 (wu32 (wu64 ((wu64 (b + (wu64 i))) + (wu64 n))))⟩, ⟨47, [], .pointer (some ⟨d, a.toNat * 1, none⟩)⟩] b4 := b5.reg; clear b5
   have b6 : Mem w.heap.size [] w Z [.own (tyInt .u32) 143 (sm d) ((w64 ((u0.length : Int) + 1)).toNat) h] Z O := l; clear l
   refine so U b6 0 (T := (tyInt .u32)) (xs := h) a.toNat (wu32 (wu64 ((wu64 (b + (wu64 i))) + (wu64 n)))) (u := .int .u32 (wu32 (wu64 ((wu64 (b + (wu64 i))) + (wu64 n))))) (nog rfl _) rfl rfl (by kernel_rfl) rfl (by kernel_rfl) rfl (by kernel_rfl) (by first | omega | (simp only [List.length_set] at *; omega)) rfl ?_; intro dT b7; clear b6
   have b8 : Fr 58 [] [⟨0, [], .slice ao1 u0.length cap2⟩, ⟨1, [], .slice ao4 u1.length cap5⟩, ⟨5, [], .slice (sm d) (h.set a.toNat (wu32 (wu64 ((wu64 (b + (wu64 i))) + (wu64 n))))).length ((w64 ((u0.length : Int) + 1)).toNat)⟩, ⟨6, [], y6 (wu64 ((wu64 (b + (wu64 i))) + (wu64 n)))⟩, ⟨7, [], i6 a⟩, ⟨22, [], .bool (decide (a < (u0.length : Int)))⟩, ⟨25, [], y6 b⟩, ⟨26, [], .slice ao1 u0.length cap2⟩, ⟨27, [], i6 a⟩, ⟨28, [], pt Q R⟩, ⟨29, [], .int .u32 i⟩, ⟨35, [], .bool (decide (a < (u1.length : Int)))⟩, ⟨36, [], y6 (wu64 (b + (wu64 i)))⟩, ⟨37, [], .slice ao4 u1.length cap5⟩, ⟨38, [], i6 a⟩, ⟨39, [], pt bW bX⟩, ⟨40, [], .int .u32 n⟩, ⟨43, [], .slice (sm d) (h.set a.toNat (wu32 (wu64 ((wu64 (b + (wu64 i))) + (wu64 n))))).length ((w64 ((u0.length : Int) + 1)).toNat)⟩, ⟨44, [], i6 a⟩, ⟨46, [], .int .u32 (wu32 (wu64 ((wu64 (b + (wu64 i))) + (wu64 n))))⟩, ⟨47, [], .pointer (some ⟨d, a.toNat * 1, none⟩)⟩] b4 := by (try simp only [List.length_set] at U); (try simp only [List.length_set]); exact U.reg
   clear U
   have al : Mem w.heap.size [] w Z [.own (tyInt .u32) 143 (sm d) ((w64 ((u0.length : Int) + 1)).toNat) (h.set a.toNat (wu32 (wu64 ((wu64 (b + (wu64 i))) + (wu64 n)))))] Z dT := b7; clear b7
   refine nlH (b1 _ _ ?_); clear b1 dP
   refine rgB b8 al [] [] [(6, y6 (bShr .u64 (wu64 ((wu64 (b + (wu64 i))) + (wu64 n))) 32))] ?_; intro eW b9; clear b8
   refine ibn ?_
   refine thn ?_
   refine rgB b9 al [] [] [(7, i6 (w64 (a + 1)))] ?_; intro eX dU; clear b9
   refine rd ?_
   exact ⟨⟨bShr .u64 (wu64 ((wu64 (b + (wu64 i))) + (wu64 n))) 32, w64 (a + 1), h.set a.toNat (wu32 (wu64 ((wu64 (b + (wu64 i))) + (wu64 n))))⟩, b3.1, b3.2, (dU.reg).anyβ _ (by kernel_rfl), al.keep (List.Sublist.cons_cons _ (List.Sublist.slnil))⟩
  have dV := S.2 ak; clear S
  refine wp_skip ?_
  refine thn ?_
  refine sqH ?_; intro dW ca
  refine bt A l 4 [] [] [(43, .slice (sm d) h.length ((w64 ((u0.length : Int) + 1)).toNat)), (44, i6 a), (46, .int .u32 (wu32 (wu64 (b + (wu64 i)))))] ?_; intro eY cb; clear A
  obtain ⟨dX, cc⟩ := dV
  refine ixo cb l 0 (T := (tyInt .u32)) (xs := h) a dX (k := .i64) (e := 143) (bytes := 4) (nog rfl _) rfl (by kernel_rfl) rfl (by kernel_rfl) (by kernel_rfl) rfl (by kernel_rfl) ?_; intro dY ce dZ cf; clear cb
  obtain rfl : d = dY := by simpa using dZ
  have V : Fr 58 [] [⟨0, [], .slice ao1 u0.length cap2⟩, ⟨1, [], .slice ao4 u1.length cap5⟩, ⟨5, [], .slice (sm d) h.length ((w64 ((u0.length : Int) + 1)).toNat)⟩, ⟨6, [], y6 (wu64 (b + (wu64 i)))⟩, ⟨7, [], i6 a⟩, ⟨22, [], .bool (decide (a < (u0.length : Int)))⟩, ⟨25, [], y6 b⟩, ⟨26, [], .slice ao1 u0.length cap2⟩, ⟨27, [], i6 a⟩, ⟨28, [], pt Q R⟩, ⟨29, [], .int .u32 i⟩, ⟨35, [], .bool (decide (a < (u1.length : Int)))⟩, ⟨43, [], .slice (sm d) h.length ((w64 ((u0.length : Int) + 1)).toNat)⟩, ⟨44, [], i6 a⟩, ⟨46, [], .int .u32 (wu32 (wu64 (b + (wu64 i))))⟩, ⟨47, [], .pointer (some ⟨d, a.toNat * 1, none⟩)⟩] ce := cf.reg; clear cf
  have cg : Mem w.heap.size [] w Z [.own (tyInt .u32) 143 (sm d) ((w64 ((u0.length : Int) + 1)).toNat) h] Z O := l; clear l
  refine so V cg 0 (T := (tyInt .u32)) (xs := h) a.toNat (wu32 (wu64 (b + (wu64 i)))) (u := .int .u32 (wu32 (wu64 (b + (wu64 i))))) (nog rfl _) rfl rfl (by kernel_rfl) rfl (by kernel_rfl) rfl (by kernel_rfl) (by first | omega | (simp only [List.length_set] at *; omega)) rfl ?_; intro d0 ch; clear cg
  have ci : Fr 58 [] [⟨0, [], .slice ao1 u0.length cap2⟩, ⟨1, [], .slice ao4 u1.length cap5⟩, ⟨5, [], .slice (sm d) (h.set a.toNat (wu32 (wu64 (b + (wu64 i))))).length ((w64 ((u0.length : Int) + 1)).toNat)⟩, ⟨6, [], y6 (wu64 (b + (wu64 i)))⟩, ⟨7, [], i6 a⟩, ⟨22, [], .bool (decide (a < (u0.length : Int)))⟩, ⟨25, [], y6 b⟩, ⟨26, [], .slice ao1 u0.length cap2⟩, ⟨27, [], i6 a⟩, ⟨28, [], pt Q R⟩, ⟨29, [], .int .u32 i⟩, ⟨35, [], .bool (decide (a < (u1.length : Int)))⟩, ⟨43, [], .slice (sm d) (h.set a.toNat (wu32 (wu64 (b + (wu64 i))))).length ((w64 ((u0.length : Int) + 1)).toNat)⟩, ⟨44, [], i6 a⟩, ⟨46, [], .int .u32 (wu32 (wu64 (b + (wu64 i))))⟩, ⟨47, [], .pointer (some ⟨d, a.toNat * 1, none⟩)⟩] ce := by (try simp only [List.length_set] at V); (try simp only [List.length_set]); exact V.reg
  clear V
  have am : Mem w.heap.size [] w Z [.own (tyInt .u32) 143 (sm d) ((w64 ((u0.length : Int) + 1)).toNat) (h.set a.toNat (wu32 (wu64 (b + (wu64 i)))))] Z d0 := ch; clear ch
  refine nlH (ca _ _ ?_); clear ca dW
  refine rgB ci am [] [] [(6, y6 (bShr .u64 (wu64 (b + (wu64 i))) 32))] ?_; intro eZ cj; clear ci
  refine ibn ?_
  refine thn ?_
  refine rgB cj am [] [] [(7, i6 (w64 (a + 1)))] ?_; intro e0 d1; clear cj
  refine rd ?_
  exact ⟨⟨bShr .u64 (wu64 (b + (wu64 i))) 32, w64 (a + 1), h.set a.toNat (wu32 (wu64 (b + (wu64 i))))⟩, cc.1, cc.2, (d1.reg).anyβ _ (by kernel_rfl), am.keep (List.Sublist.cons_cons _ (List.Sublist.slnil))⟩
 have d2 := P.2 aj; clear P
 refine wp_exit ?_
 refine thx ?_
 refine thx ?_
 refine ibx ?_
 refine thn ?_
 refine sqH ?_; intro d3 cl
 refine bt y l 5 [] [] [(50, .slice (sm d) h.length ((w64 ((u0.length : Int) + 1)).toNat)), (52, i6 (u0.length : Int)), (54, .int .u32 (wu32 b))] ?_; intro e1 cm; clear y
 obtain ⟨d4, cn⟩ := d2
 refine ixo cm l 0 (T := (tyInt .u32)) (xs := h) (u0.length : Int) d4 (k := .i64) (e := 143) (bytes := 4) (nog rfl _) rfl (by kernel_rfl) rfl (by kernel_rfl) (by kernel_rfl) rfl (by kernel_rfl) ?_; intro d5 co d6 cp; clear cm
 obtain rfl : d = d5 := by simpa using d6
 have W : Fr 58 [] [⟨0, [], .slice ao1 u0.length cap2⟩, ⟨1, [], .slice ao4 u1.length cap5⟩, ⟨5, [], .slice (sm d) h.length ((w64 ((u0.length : Int) + 1)).toNat)⟩, ⟨6, [], y6 b⟩, ⟨7, [], i6 a⟩, ⟨22, [], .bool (decide (a < (u0.length : Int)))⟩, ⟨50, [], .slice (sm d) h.length ((w64 ((u0.length : Int) + 1)).toNat)⟩, ⟨52, [], i6 (u0.length : Int)⟩, ⟨54, [], .int .u32 (wu32 b)⟩, ⟨55, [], .pointer (some ⟨d, (u0.length : Int).toNat * 1, none⟩)⟩] co := cp.reg; clear cp
 have cq : Mem w.heap.size [] w Z [.own (tyInt .u32) 143 (sm d) ((w64 ((u0.length : Int) + 1)).toNat) h] Z O := l; clear l
 refine so W cq 0 (T := (tyInt .u32)) (xs := h) (u0.length : Int).toNat (wu32 b) (u := .int .u32 (wu32 b)) (nog rfl _) rfl rfl (by kernel_rfl) rfl (by kernel_rfl) rfl (by kernel_rfl) (by first | omega | (simp only [List.length_set] at *; omega)) rfl ?_; intro cr cs; clear cq
 have ct : Fr 58 [] [⟨0, [], .slice ao1 u0.length cap2⟩, ⟨1, [], .slice ao4 u1.length cap5⟩, ⟨5, [], .slice (sm d) (h.set (u0.length : Int).toNat (wu32 b)).length ((w64 ((u0.length : Int) + 1)).toNat)⟩, ⟨6, [], y6 b⟩, ⟨7, [], i6 a⟩, ⟨22, [], .bool (decide (a < (u0.length : Int)))⟩, ⟨50, [], .slice (sm d) (h.set (u0.length : Int).toNat (wu32 b)).length ((w64 ((u0.length : Int) + 1)).toNat)⟩, ⟨52, [], i6 (u0.length : Int)⟩, ⟨54, [], .int .u32 (wu32 b)⟩, ⟨55, [], .pointer (some ⟨d, (u0.length : Int).toNat * 1, none⟩)⟩] co := by (try simp only [List.length_set] at W); (try simp only [List.length_set]); exact W.reg
 clear W
 have d7 : Mem w.heap.size [] w Z [.own (tyInt .u32) 143 (sm d) ((w64 ((u0.length : Int) + 1)).toNat) (h.set (u0.length : Int).toNat (wu32 b))] Z cr := cs; clear cs
 refine nlH (cl _ _ ?_); clear cl d3
 refine sqH ?_; intro d8 cu
 refine s1 ct 56 (.slice (sm d) (h.set (u0.length : Int).toNat (wu32 b)).length ((w64 ((u0.length : Int) + 1)).toNat)) ?_; intro e2 cv; clear ct
 obtain ⟨d9, an, cw, ao⟩ := d7.freeze 0 rfl
 replace hs3 := hs3.mono an
 replace hs6 := hs6.mono an
 replace p := Fz.le.trans p an
 have ap : Mem w.heap.size [] w Z [] d9 cr := cw; clear cw
 refine ck cv 126 #[.slice (sm d) (h.set (u0.length : Int).toNat (wu32 b)).length ((w64 ((u0.length : Int) + 1)).toNat)] ?_
 refine (gtrim_fun (h.set (u0.length : Int).toNat (wu32 b)) (sm d) ((w64 ((u0.length : Int) + 1)).toNat) _ _ ao ap.fz).mono ?_; rintro _ ea ⟨aq, ar, cx, rfl, cy, hm⟩; refine ⟨_, rfl, ?_⟩; intro e3 cz; have cA := ap.callZ hm; have X := hm.ext.le; clear hm ap cv
 replace hs3 := hs3.mono X
 replace hs6 := hs6.mono X
 replace ao := ao.mono X
 replace p := Fz.le.trans p X
 have eb : Mem w.heap.size [] w Z [] cx ea := cA; clear cA
 have ec := cn (cy.small); clear cn
 refine s1 cz 4 (.slice aq (gtrimS (h.set (u0.length : Int).toNat (wu32 b))).length ar) ?_; intro e4 ed; clear cz
 refine nlH (cu _ _ ?_); clear cu d8
 refine wp_ret ?_
 refine ra1 ed (.slice aq (gtrimS (h.set (u0.length : Int).toNat (wu32 b))).length ar) ?_
 exact ⟨(gtrimS (h.set (u0.length : Int).toNat (wu32 b))), aq, ar, cx, rfl, ec, cy, eb.keep (List.Sublist.slnil)⟩

theorem gmul_walk (u0 : List Int) (u1 : List Int) (ao1 : Option Addr) (cap2 : Nat) (ao4 : Option Addr) (cap5 : Nat) (Z : Fz) (w : World) (hs3 : SlR (tyInt .u32) Z ao1 cap2 u0) (hs6 : SlR (tyInt .u32) Z ao4 cap5 u1) (hZ : Z.on w) {K : (List Int) → Prop} (hp : gmul_vc u0 u1 K) : Calls Tryz.prog 124 #[.slice ao1 u0.length cap2, .slice ao4 u1.length cap5] w fun e w' => ∃ (r : (List Int)) (ao1001 : Option Addr) (cap1002 : Nat) (Z' : Fz), e = .returned (.slice ao1001 r.length cap1002) ∧ K r ∧ SlR (tyInt .u32) Z' ao1001 cap1002 r ∧ Mem w.heap.size [] w Z [] Z' w' := by
 refine enter0 Tryz.func124 rfl rfl (by kernel_rfl) ?_; intro a0 aa; have m := Mem.start w Z hZ; have y := Fz.le.refl Z
 have ab := hp (hs3.small); clear hp
 have A := ab (hs6.small); clear ab
 refine sqB aa m [] [] [] ?_; intro cq ac; clear aa
 refine wp_seq ?_
 refine sqB ac m [] [] [(16, .bool (((u0.length : Int) == 0) || ((u1.length : Int) == 0)))] ?_; intro cr q; clear ac
 refine cd q (t := ((u0.length : Int) == 0) || ((u1.length : Int) == 0)) (by kernel_rfl) (fun G => ?_) (fun G => ?_)
 ·
  have bk := A.1 G; clear A
  refine sqB q m [] [] [(4, .slice none 0 0)] ?_; intro cs bl; clear q
  refine wp_ret ?_
  refine thr ?_
  refine ra1 bl (.slice none 0 0) ?_
  exact ⟨[], none, 0, Z, rfl, bk, (SlR.nil _ _), m.keep (List.Sublist.slnil)⟩
 have bm := A.2 G; clear A
 refine wp_skip ?_
 refine thn ?_
 refine sqH ?_; intro bn ad
 refine bt q m 5 [] [] [(21, i6 (w64 ((u0.length : Int) + (u1.length : Int))))] ?_; intro ct ae; clear q
 obtain ⟨cu, bo⟩ := bm
 refine mks ae m (T := (tyInt .u32)) (w64 ((u0.length : Int) + (u1.length : Int))) (w64 ((u0.length : Int) + (u1.length : Int))) (k := .i64) (k' := .i64) (e := 143) (bytes := 4) (zs := [.int .u32 0]) (z := 0) (by simp only [lim]; omega) (nog rfl _) rfl (by kernel_rfl) rfl (by kernel_rfl) (by kernel_rfl) (by kernel_rfl) (by kernel_rfl) rfl ?_; intro b cv bp af ag; clear ae m
 have H : Mem w.heap.size [] w Z [.own (tyInt .u32) 143 (sm b) ((w64 ((u0.length : Int) + (u1.length : Int))).toNat) (List.replicate (w64 ((u0.length : Int) + (u1.length : Int))).toNat (0 : Int))] Z bp := ag; clear ag
 refine s1 af 5 (.slice (sm b) (List.replicate (w64 ((u0.length : Int) + (u1.length : Int))).toNat (0 : Int)).length ((w64 ((u0.length : Int) + (u1.length : Int))).toNat)) ?_; intro cw ah; clear af
 refine nlH (ad _ _ ?_); clear ad bn
 refine wp_seq ?_
 refine sqB ah H [] [] [(6, i6 0)] ?_; intro ai aj; clear ah
 refine wp_block ?_
 have ak : Fr 75 [] [⟨0, [], .slice ao1 u0.length cap2⟩, ⟨1, [], .slice ao4 u1.length cap5⟩, ⟨5, [], .slice (sm b) (List.replicate (w64 ((u0.length : Int) + (u1.length : Int))).toNat (0 : Int)).length ((w64 ((u0.length : Int) + (u1.length : Int))).toNat)⟩, ⟨6, [], i6 0⟩] ai := aj.reg; clear aj
 have al : Fr 75 [] [⟨0, [], .slice ao1 u0.length cap2⟩, ⟨1, [], .slice ao4 u1.length cap5⟩, ⟨5, [], .slice (sm b) (List.replicate (w64 ((u0.length : Int) + (u1.length : Int))).toNat (0 : Int)).length ((w64 ((u0.length : Int) + (u1.length : Int))).toNat)⟩, ⟨6, [], i6 0⟩] ai := ak.reg; clear ak
 obtain ⟨bq, br, bs, bu⟩ := bo
 refine lp (ι := Int × (List Int)) (fun (s : Int × (List Int)) => [⟨0, [], .slice ao1 u0.length cap2⟩, ⟨1, [], .slice ao4 u1.length cap5⟩, ⟨5, [], .slice (sm b) s.2.length ((w64 ((u0.length : Int) + (u1.length : Int))).toNat)⟩, ⟨6, [], i6 s.1⟩]) (fun (s : Int × (List Int)) => [.own (tyInt .u32) 143 (sm b) ((w64 ((u0.length : Int) + (u1.length : Int))).toNat) s.2]) (fun (s : Int × (List Int)) => Z) (fun (s : Int × (List Int)) => bq s.1 s.2) (fun (s : Int × (List Int)) => br s.1 s.2) ⟨0, (List.replicate (w64 ((u0.length : Int) + (u1.length : Int))).toNat (0 : Int))⟩ bs (by exact al.reg) (by exact H) ?_
 rintro ⟨a, l⟩ bv bw am an ao
 have ap : Fr 75 [] [⟨0, [], .slice ao1 u0.length cap2⟩, ⟨1, [], .slice ao4 u1.length cap5⟩, ⟨5, [], .slice (sm b) l.length ((w64 ((u0.length : Int) + (u1.length : Int))).toNat)⟩, ⟨6, [], i6 a⟩] bw := an; clear an al
 have p : Mem w.heap.size [] w Z [.own (tyInt .u32) 143 (sm b) ((w64 ((u0.length : Int) + (u1.length : Int))).toNat) l] Z am := ao; clear ao H
 have B := bu a l bv
 refine wp_seq ?_
 refine sqB ap p [] [] [(26, .bool (decide (a < (u0.length : Int))))] ?_; intro cx v; clear ap
 refine cd v (t := decide (a < (u0.length : Int))) (by kernel_rfl) (fun I => ?_) (fun I => ?_)
 ·
  have bx := B.1 I; clear B
  refine wp_skip ?_
  refine thn ?_
  refine wp_seq ?_
  refine wp_block ?_
  refine sqB v p [] [] [(7, y6 0)] ?_; intro cy aq; clear v
  refine wp_seq ?_
  refine sqB aq p [] [] [(8, i6 0)] ?_; intro ar au; clear aq
  refine wp_block ?_
  have av : Fr 75 [] [⟨0, [], .slice ao1 u0.length cap2⟩, ⟨1, [], .slice ao4 u1.length cap5⟩, ⟨5, [], .slice (sm b) l.length ((w64 ((u0.length : Int) + (u1.length : Int))).toNat)⟩, ⟨6, [], i6 a⟩, ⟨7, [], y6 0⟩, ⟨8, [], i6 0⟩] ar := au.reg; clear au
  have aw : Fr 75 [] [⟨0, [], .slice ao1 u0.length cap2⟩, ⟨1, [], .slice ao4 u1.length cap5⟩, ⟨5, [], .slice (sm b) l.length ((w64 ((u0.length : Int) + (u1.length : Int))).toNat)⟩, ⟨6, [], i6 a⟩, ⟨7, [], y6 0⟩, ⟨8, [], i6 0⟩] ar := av.reg; clear av
  obtain ⟨bz, bA, bB, bC⟩ := bx
  refine lp (ι := Int × Int × (List Int)) (fun (s : Int × Int × (List Int)) => [⟨0, [], .slice ao1 u0.length cap2⟩, ⟨1, [], .slice ao4 u1.length cap5⟩, ⟨5, [], .slice (sm b) s.2.2.length ((w64 ((u0.length : Int) + (u1.length : Int))).toNat)⟩, ⟨6, [], i6 a⟩, ⟨7, [], y6 s.1⟩, ⟨8, [], i6 s.2.1⟩]) (fun (s : Int × Int × (List Int)) => [.own (tyInt .u32) 143 (sm b) ((w64 ((u0.length : Int) + (u1.length : Int))).toNat) s.2.2]) (fun (s : Int × Int × (List Int)) => Z) (fun (s : Int × Int × (List Int)) => bz s.1 s.2.1 s.2.2) (fun (s : Int × Int × (List Int)) => bA s.1 s.2.1 s.2.2) ⟨0, 0, l⟩ bB (by exact aw.reg) (by exact p) ?_
  rintro ⟨d, c, f⟩ bD bE ax ay az
  have aA : Fr 75 [] [⟨0, [], .slice ao1 u0.length cap2⟩, ⟨1, [], .slice ao4 u1.length cap5⟩, ⟨5, [], .slice (sm b) f.length ((w64 ((u0.length : Int) + (u1.length : Int))).toNat)⟩, ⟨6, [], i6 a⟩, ⟨7, [], y6 d⟩, ⟨8, [], i6 c⟩] bE := ay; clear ay aw
  have n : Mem w.heap.size [] w Z [.own (tyInt .u32) 143 (sm b) ((w64 ((u0.length : Int) + (u1.length : Int))).toNat) f] Z ax := az; clear az p
  have C := bC d c f bD
  refine wp_seq ?_
  refine sqB aA n [] [] [(32, .bool (decide (c < (u1.length : Int))))] ?_; intro bF x; clear aA
  refine cd x (t := decide (c < (u1.length : Int))) (by kernel_rfl) (fun J => ?_) (fun J => ?_)
  ·
   have bG := C.1 J; clear C
   refine wp_skip ?_
   refine thn ?_
   refine wp_seq ?_
   refine wp_block ?_
   have aB : Fr 75 [] [⟨0, [], .slice ao1 u0.length cap2⟩, ⟨1, [], .slice ao4 u1.length cap5⟩, ⟨5, [], .slice (sm b) f.length ((w64 ((u0.length : Int) + (u1.length : Int))).toNat)⟩, ⟨6, [], i6 a⟩, ⟨7, [], y6 d⟩, ⟨8, [], i6 c⟩] bF := x.reg; clear x
   refine wp_seq (rgS mixed n [(0, true), (1, true), (2, true), (6, true), (7, true), (12, true), (13, true), (14, true), (15, true), (3, true), (4, true), (5, true), (8, true), (9, true), (10, true), (11, true), (16, false), (17, false), (18, true), (19, true), (20, true), (21, true)] [] [] ?_)
   intro bH aC aD L; clear n
   have aE := Fz.le.refl Z
   refine cS aB 9 [] [] [(35, y6 d), (36, .slice ao1 u0.length cap2), (37, i6 a), (41, .slice ao4 u1.length cap5), (42, i6 c), (47, .slice (sm b) f.length ((w64 ((u0.length : Int) + (u1.length : Int))).toNat)), (50, i6 (w64 (a + c)))] ?_; intro cz aF; clear aB
   obtain ⟨bI, aG⟩ := bG
   refine cix rfl aF (T := (tyInt .u32)) (xs := u0) hs3 a bI (k := .i64) (e := 143) (bytes := 4) (nog rfl _) rfl (by kernel_rfl) rfl (by kernel_rfl) (by kernel_rfl) (by kernel_rfl) ?_; intro M N bJ h cA bK bL bM O; clear aF
   have bN := aG h bK; clear aG
   obtain rfl : bJ = ([.int .u32 h] : List Value) := bM
   refine cst rfl O (.int .u32 h) (nog rfl _) rfl (by kernel_rfl) (fun v152 hC => lz O hC.fz bL 0 (g := []) rfl (by kernel_rfl) (by kernel_rfl) (by kernel_rfl) rfl) ?_; intro cB aH; clear O
   refine cS aH 1 [] [] [(40, y6 (wu64 h))] ?_; intro cC aI; clear aH
   obtain ⟨bO, aJ⟩ := bN
   refine cix rfl aI (T := (tyInt .u32)) (xs := u1) hs6 c bO (k := .i64) (e := 143) (bytes := 4) (nog rfl _) rfl (by kernel_rfl) rfl (by kernel_rfl) (by kernel_rfl) (by kernel_rfl) ?_; intro P Q bP i cD bQ bR bS R; clear aI
   have bT := aJ i bQ; clear aJ
   obtain rfl : bP = ([.int .u32 i] : List Value) := bS
   refine cst rfl R (.int .u32 i) (nog rfl _) rfl (by kernel_rfl) (fun v170 hC => lz R hC.fz bR 0 (g := []) rfl (by kernel_rfl) (by kernel_rfl) (by kernel_rfl) rfl) ?_; intro cE aK; clear R
   refine cS aK 2 [] [] [(46, y6 (wu64 ((wu64 h) * (wu64 i))))] ?_; intro cF aL; clear aK
   refine eS rfl ?_; intro bU aM
   obtain ⟨bV, aN⟩ := bT
   refine ixo aL L 0 (T := (tyInt .u32)) (xs := f) (w64 (a + c)) bV (k := .i64) (e := 143) (bytes := 4) (nog rfl _) rfl (by kernel_rfl) rfl (by kernel_rfl) (by kernel_rfl) rfl (by kernel_rfl) ?_; intro bW bX bY aO; clear aL
   obtain rfl : b = bW := by simpa using bY
   have aP : Fr 75 [] [⟨0, [], .slice ao1 u0.length cap2⟩, ⟨1, [], .slice ao4 u1.length cap5⟩, ⟨5, [], .slice (sm b) f.length ((w64 ((u0.length : Int) + (u1.length : Int))).toNat)⟩, ⟨6, [], i6 a⟩, ⟨7, [], y6 d⟩, ⟨8, [], i6 c⟩, ⟨35, [], y6 d⟩, ⟨36, [], .slice ao1 u0.length cap2⟩, ⟨37, [], i6 a⟩, ⟨38, [], pt M N⟩, ⟨39, [], .int .u32 h⟩, ⟨40, [], y6 (wu64 h)⟩, ⟨41, [], .slice ao4 u1.length cap5⟩, ⟨42, [], i6 c⟩, ⟨43, [], pt P Q⟩, ⟨44, [], .int .u32 i⟩, ⟨46, [], y6 (wu64 ((wu64 h) * (wu64 i)))⟩, ⟨47, [], .slice (sm b) f.length ((w64 ((u0.length : Int) + (u1.length : Int))).toNat)⟩, ⟨50, [], i6 (w64 (a + c))⟩, ⟨51, [], .pointer (some ⟨b, (w64 (a + c)).toNat * 1, none⟩)⟩] bX := aO.reg; clear aO
   have o : Mem w.heap.size [] w Z [.own (tyInt .u32) 143 (sm b) ((w64 ((u0.length : Int) + (u1.length : Int))).toNat) f] Z aD := L; clear L
   refine nl (qnI (aM _ _ (o.cst aE []) ?_)); clear aM bU
   refine eS rfl ?_; intro bZ aQ
   obtain ⟨j, b0, b1⟩ := gxq aN (by first | omega | (simp only [List.length_set] at *; omega)); clear aN
   obtain ⟨b2, b3, b4⟩ := own_el o 0 (T := (tyInt .u32)) (xs := f) rfl (w64 (a + c)).toNat b0
   obtain rfl : b2 = ([.int .u32 j] : List Value) := b3
   refine lc1 aP 52 (.int .u32 j) (b4 0 _ rfl) rfl ?_; intro cG aR; clear aP
   refine nl (qnI (aQ _ _ (o.cst aE []) ?_)); clear aQ bZ
   refine cS aR 4 [] [] [(7, y6 (wu64 (d + (wu64 ((wu64 ((wu64 h) * (wu64 i))) + (wu64 j))))))] ?_; intro cH aS; clear aR
   refine nS (aC _ _ ?_); clear aC bH
   refine thn ?_
   refine sqH ?_; intro b5 aT
   refine bt aS o 6 [] [] [(56, .slice (sm b) f.length ((w64 ((u0.length : Int) + (u1.length : Int))).toNat)), (59, i6 (w64 (a + c))), (61, .int .u32 (wu32 (wu64 (d + (wu64 ((wu64 ((wu64 h) * (wu64 i))) + (wu64 j)))))))] ?_; intro cI aU; clear aS
   obtain ⟨b6, aV⟩ := b1
   refine ixo aU o 0 (T := (tyInt .u32)) (xs := f) (w64 (a + c)) b6 (k := .i64) (e := 143) (bytes := 4) (nog rfl _) rfl (by kernel_rfl) rfl (by kernel_rfl) (by kernel_rfl) rfl (by kernel_rfl) ?_; intro b7 aW b8 aX; clear aU
   obtain rfl : b = b7 := by simpa using b8
   have D : Fr 75 [] [⟨0, [], .slice ao1 u0.length cap2⟩, ⟨1, [], .slice ao4 u1.length cap5⟩, ⟨5, [], .slice (sm b) f.length ((w64 ((u0.length : Int) + (u1.length : Int))).toNat)⟩, ⟨6, [], i6 a⟩, ⟨7, [], y6 (wu64 (d + (wu64 ((wu64 ((wu64 h) * (wu64 i))) + (wu64 j)))))⟩, ⟨8, [], i6 c⟩, ⟨35, [], y6 d⟩, ⟨36, [], .slice ao1 u0.length cap2⟩, ⟨37, [], i6 a⟩, ⟨38, [], pt M N⟩, ⟨39, [], .int .u32 h⟩, ⟨40, [], y6 (wu64 h)⟩, ⟨41, [], .slice ao4 u1.length cap5⟩, ⟨42, [], i6 c⟩, ⟨43, [], pt P Q⟩, ⟨44, [], .int .u32 i⟩, ⟨46, [], y6 (wu64 ((wu64 h) * (wu64 i)))⟩, ⟨47, [], .slice (sm b) f.length ((w64 ((u0.length : Int) + (u1.length : Int))).toNat)⟩, ⟨50, [], i6 (w64 (a + c))⟩, ⟨51, [], .pointer (some ⟨b, (w64 (a + c)).toNat * 1, none⟩)⟩, ⟨52, [], .int .u32 j⟩, ⟨56, [], .slice (sm b) f.length ((w64 ((u0.length : Int) + (u1.length : Int))).toNat)⟩, ⟨59, [], i6 (w64 (a + c))⟩, ⟨61, [], .int .u32 (wu32 (wu64 (d + (wu64 ((wu64 ((wu64 h) * (wu64 i))) + (wu64 j))))))⟩, ⟨62, [], .pointer (some ⟨b, (w64 (a + c)).toNat * 1, none⟩)⟩] aW := aX.reg; clear aX
   have aY : Mem w.heap.size [] w Z [.own (tyInt .u32) 143 (sm b) ((w64 ((u0.length : Int) + (u1.length : Int))).toNat) f] Z aD := o; clear o
   refine so D aY 0 (T := (tyInt .u32)) (xs := f) (w64 (a + c)).toNat (wu32 (wu64 (d + (wu64 ((wu64 ((wu64 h) * (wu64 i))) + (wu64 j)))))) (u := .int .u32 (wu32 (wu64 (d + (wu64 ((wu64 ((wu64 h) * (wu64 i))) + (wu64 j))))))) (nog rfl _) rfl rfl (by kernel_rfl) rfl (by kernel_rfl) rfl (by kernel_rfl) (by first | omega | (simp only [List.length_set] at *; omega)) rfl ?_; intro b9 aZ; clear aY
   have a1 : Fr 75 [] [⟨0, [], .slice ao1 u0.length cap2⟩, ⟨1, [], .slice ao4 u1.length cap5⟩, ⟨5, [], .slice (sm b) (f.set (w64 (a + c)).toNat (wu32 (wu64 (d + (wu64 ((wu64 ((wu64 h) * (wu64 i))) + (wu64 j))))))).length ((w64 ((u0.length : Int) + (u1.length : Int))).toNat)⟩, ⟨6, [], i6 a⟩, ⟨7, [], y6 (wu64 (d + (wu64 ((wu64 ((wu64 h) * (wu64 i))) + (wu64 j)))))⟩, ⟨8, [], i6 c⟩, ⟨35, [], y6 d⟩, ⟨36, [], .slice ao1 u0.length cap2⟩, ⟨37, [], i6 a⟩, ⟨38, [], pt M N⟩, ⟨39, [], .int .u32 h⟩, ⟨40, [], y6 (wu64 h)⟩, ⟨41, [], .slice ao4 u1.length cap5⟩, ⟨42, [], i6 c⟩, ⟨43, [], pt P Q⟩, ⟨44, [], .int .u32 i⟩, ⟨46, [], y6 (wu64 ((wu64 h) * (wu64 i)))⟩, ⟨47, [], .slice (sm b) (f.set (w64 (a + c)).toNat (wu32 (wu64 (d + (wu64 ((wu64 ((wu64 h) * (wu64 i))) + (wu64 j))))))).length ((w64 ((u0.length : Int) + (u1.length : Int))).toNat)⟩, ⟨50, [], i6 (w64 (a + c))⟩, ⟨51, [], .pointer (some ⟨b, (w64 (a + c)).toNat * 1, none⟩)⟩, ⟨52, [], .int .u32 j⟩, ⟨56, [], .slice (sm b) (f.set (w64 (a + c)).toNat (wu32 (wu64 (d + (wu64 ((wu64 ((wu64 h) * (wu64 i))) + (wu64 j))))))).length ((w64 ((u0.length : Int) + (u1.length : Int))).toNat)⟩, ⟨59, [], i6 (w64 (a + c))⟩, ⟨61, [], .int .u32 (wu32 (wu64 (d + (wu64 ((wu64 ((wu64 h) * (wu64 i))) + (wu64 j))))))⟩, ⟨62, [], .pointer (some ⟨b, (w64 (a + c)).toNat * 1, none⟩)⟩] aW := by (try simp only [List.length_set] at D); (try simp only [List.length_set]); exact D.reg
   clear D
   have S : Mem w.heap.size [] w Z [.own (tyInt .u32) 143 (sm b) ((w64 ((u0.length : Int) + (u1.length : Int))).toNat) (f.set (w64 (a + c)).toNat (wu32 (wu64 (d + (wu64 ((wu64 ((wu64 h) * (wu64 i))) + (wu64 j)))))))] Z b9 := aZ; clear aZ
   refine nlH (aT _ _ ?_); clear aT b5
   refine rgB a1 S [] [] [(7, y6 (bShr .u64 (wu64 (d + (wu64 ((wu64 ((wu64 h) * (wu64 i))) + (wu64 j))))) 32))] ?_; intro cJ a2; clear a1
   refine ibn ?_
   refine thn ?_
   refine rgB a2 S [] [] [(8, i6 (w64 (c + 1)))] ?_; intro cK ca; clear a2
   refine rd ?_
   exact ⟨⟨bShr .u64 (wu64 (d + (wu64 ((wu64 ((wu64 h) * (wu64 i))) + (wu64 j))))) 32, w64 (c + 1), f.set (w64 (a + c)).toNat (wu32 (wu64 (d + (wu64 ((wu64 ((wu64 h) * (wu64 i))) + (wu64 j))))))⟩, aV.1, aV.2, (ca.reg).anyβ _ (by kernel_rfl), S.keep (List.Sublist.cons_cons _ (List.Sublist.slnil))⟩
  have cb := C.2 J; clear C
  refine wp_exit ?_
  refine thx ?_
  refine thx ?_
  refine ibx ?_
  refine thn ?_
  refine rgH ?_; intro cc a3
  refine bt x n 7 [] [] [(65, .slice (sm b) f.length ((w64 ((u0.length : Int) + (u1.length : Int))).toNat)), (69, i6 (w64 (a + (u1.length : Int)))), (71, .int .u32 (wu32 d))] ?_; intro cL a4; clear x
  obtain ⟨ce, a5⟩ := cb
  refine ixo a4 n 0 (T := (tyInt .u32)) (xs := f) (w64 (a + (u1.length : Int))) ce (k := .i64) (e := 143) (bytes := 4) (nog rfl _) rfl (by kernel_rfl) rfl (by kernel_rfl) (by kernel_rfl) rfl (by kernel_rfl) ?_; intro cf a6 cg a7; clear a4
  obtain rfl : b = cf := by simpa using cg
  have E : Fr 75 [] [⟨0, [], .slice ao1 u0.length cap2⟩, ⟨1, [], .slice ao4 u1.length cap5⟩, ⟨5, [], .slice (sm b) f.length ((w64 ((u0.length : Int) + (u1.length : Int))).toNat)⟩, ⟨6, [], i6 a⟩, ⟨7, [], y6 d⟩, ⟨8, [], i6 c⟩, ⟨32, [], .bool (decide (c < (u1.length : Int)))⟩, ⟨65, [], .slice (sm b) f.length ((w64 ((u0.length : Int) + (u1.length : Int))).toNat)⟩, ⟨69, [], i6 (w64 (a + (u1.length : Int)))⟩, ⟨71, [], .int .u32 (wu32 d)⟩, ⟨72, [], .pointer (some ⟨b, (w64 (a + (u1.length : Int))).toNat * 1, none⟩)⟩] a6 := a7.reg; clear a7
  have a8 : Mem w.heap.size [] w Z [.own (tyInt .u32) 143 (sm b) ((w64 ((u0.length : Int) + (u1.length : Int))).toNat) f] Z ax := n; clear n
  refine so E a8 0 (T := (tyInt .u32)) (xs := f) (w64 (a + (u1.length : Int))).toNat (wu32 d) (u := .int .u32 (wu32 d)) (nog rfl _) rfl rfl (by kernel_rfl) rfl (by kernel_rfl) rfl (by kernel_rfl) (by first | omega | (simp only [List.length_set] at *; omega)) rfl ?_; intro ch a9; clear a8
  have ba : Fr 75 [] [⟨0, [], .slice ao1 u0.length cap2⟩, ⟨1, [], .slice ao4 u1.length cap5⟩, ⟨5, [], .slice (sm b) (f.set (w64 (a + (u1.length : Int))).toNat (wu32 d)).length ((w64 ((u0.length : Int) + (u1.length : Int))).toNat)⟩, ⟨6, [], i6 a⟩, ⟨7, [], y6 d⟩, ⟨8, [], i6 c⟩, ⟨32, [], .bool (decide (c < (u1.length : Int)))⟩, ⟨65, [], .slice (sm b) (f.set (w64 (a + (u1.length : Int))).toNat (wu32 d)).length ((w64 ((u0.length : Int) + (u1.length : Int))).toNat)⟩, ⟨69, [], i6 (w64 (a + (u1.length : Int)))⟩, ⟨71, [], .int .u32 (wu32 d)⟩, ⟨72, [], .pointer (some ⟨b, (w64 (a + (u1.length : Int))).toNat * 1, none⟩)⟩] a6 := by (try simp only [List.length_set] at E); (try simp only [List.length_set]); exact E.reg
  clear E
  have bb : Mem w.heap.size [] w Z [.own (tyInt .u32) 143 (sm b) ((w64 ((u0.length : Int) + (u1.length : Int))).toNat) (f.set (w64 (a + (u1.length : Int))).toNat (wu32 d))] Z ch := a9; clear a9
  refine nlH (a3 _ _ ?_); clear a3 cc
  refine ibn ?_
  refine thn ?_
  refine rgB ba bb [] [] [(6, i6 (w64 (a + 1)))] ?_; intro cM ci; clear ba
  refine rd ?_
  exact ⟨⟨w64 (a + 1), f.set (w64 (a + (u1.length : Int))).toNat (wu32 d)⟩, a5.1, a5.2, (ci.reg).anyβ _ (by kernel_rfl), bb.keep (List.Sublist.cons_cons _ (List.Sublist.slnil))⟩
 have bc := B.2 I; clear B
 refine wp_exit ?_
 refine thx ?_
 refine thx ?_
 refine ibx ?_
 refine thn ?_
 refine sqH ?_; intro cj bd
 refine s1 v 73 (.slice (sm b) l.length ((w64 ((u0.length : Int) + (u1.length : Int))).toNat)) ?_; intro cN be; clear v
 obtain ⟨cl, U, bf, V⟩ := p.freeze 0 rfl
 replace hs3 := hs3.mono U
 replace hs6 := hs6.mono U
 replace y := Fz.le.trans y U
 have W : Mem w.heap.size [] w Z [] cl am := bf; clear bf
 refine ck be 126 #[.slice (sm b) l.length ((w64 ((u0.length : Int) + (u1.length : Int))).toNat)] ?_
 refine (gtrim_fun l (sm b) ((w64 ((u0.length : Int) + (u1.length : Int))).toNat) _ _ V W.fz).mono ?_; rintro _ cm ⟨X, Y, bg, rfl, bh, hm⟩; refine ⟨_, rfl, ?_⟩; intro cO bi; have bj := W.callZ hm; have F := hm.ext.le; clear hm W be
 replace hs3 := hs3.mono F
 replace hs6 := hs6.mono F
 replace V := V.mono F
 replace y := Fz.le.trans y F
 have cn : Mem w.heap.size [] w Z [] bg cm := bj; clear bj
 have co := bc (bh.small); clear bc
 refine s1 bi 4 (.slice X (gtrimS l).length Y) ?_; intro cP cp; clear bi
 refine nlH (bd _ _ ?_); clear bd cj
 refine wp_ret ?_
 refine ra1 cp (.slice X (gtrimS l).length Y) ?_
 exact ⟨(gtrimS l), X, Y, bg, rfl, co, bh, cn.keep (List.Sublist.slnil)⟩

theorem gleft_walk (u0 : List Int) (u1 : Int) (ao1 : Option Addr) (cap2 : Nat) (Z : Fz) (w : World) (hs3 : SlR (tyInt .u32) Z ao1 cap2 u0) (hZ : Z.on w) {K : (List Int) → Prop} (hp : gleft_vc u0 u1 K) : Calls Tryz.prog 103 #[.slice ao1 u0.length cap2, y6 u1] w fun e w' => ∃ (r : (List Int)) (ao1001 : Option Addr) (cap1002 : Nat) (Z' : Fz), e = .returned (.slice ao1001 r.length cap1002) ∧ K r ∧ SlR (tyInt .u32) Z' ao1001 cap1002 r ∧ Mem w.heap.size [] w Z [] Z' w' := by
 refine enter0 Tryz.func103 rfl rfl (by kernel_rfl) ?_; intro a0 P; have j := Mem.start w Z hZ; have v := Fz.le.refl Z
 have x := hp (hs3.small); clear hp
 refine sqB P j [] [] [] ?_; intro a6 Q; clear P
 refine wp_seq ?_
 refine sqB Q j [] [] [(12, .bool ((u0.length : Int) == 0))] ?_; intro bX n; clear Q
 refine cd n (t := (u0.length : Int) == 0) (by kernel_rfl) (fun E => ?_) (fun E => ?_)
 ·
  have aY := x.1 E; clear x
  refine sqB n j [] [] [(4, .slice none 0 0)] ?_; intro bY aZ; clear n
  refine wp_ret ?_
  refine thr ?_
  refine ra1 aZ (.slice none 0 0) ?_
  exact ⟨[], none, 0, Z, rfl, aY, (SlR.nil _ _), j.keep (List.Sublist.slnil)⟩
 have a1 := x.2 E; clear x
 refine wp_skip ?_
 refine thn ?_
 refine sqB n j [] [] [(5, i6 (w64 (wu64 (u1.tdiv 32)))), (6, y6 (u1.tmod 32))] ?_; intro bZ R; clear n
 refine sqH ?_; intro a2 S
 refine bt R j 5 [] [] [(22, i6 (w64 ((w64 ((u0.length : Int) + (w64 (wu64 (u1.tdiv 32))))) + 1)))] ?_; intro b0 U; clear R
 obtain ⟨b1, a3⟩ := a1
 refine mks U j (T := (tyInt .u32)) (w64 ((w64 ((u0.length : Int) + (w64 (wu64 (u1.tdiv 32))))) + 1)) (w64 ((w64 ((u0.length : Int) + (w64 (wu64 (u1.tdiv 32))))) + 1)) (k := .i64) (k' := .i64) (e := 143) (bytes := 4) (zs := [.int .u32 0]) (z := 0) (by simp only [lim]; omega) (nog rfl _) rfl (by kernel_rfl) rfl (by kernel_rfl) (by kernel_rfl) (by kernel_rfl) (by kernel_rfl) rfl ?_; intro c b2 a4 V W; clear U j
 have F : Mem w.heap.size [] w Z [.own (tyInt .u32) 143 (sm c) ((w64 ((w64 ((u0.length : Int) + (w64 (wu64 (u1.tdiv 32))))) + 1)).toNat) (List.replicate (w64 ((w64 ((u0.length : Int) + (w64 (wu64 (u1.tdiv 32))))) + 1)).toNat (0 : Int))] Z a4 := W; clear W
 refine s1 V 7 (.slice (sm c) (List.replicate (w64 ((w64 ((u0.length : Int) + (w64 (wu64 (u1.tdiv 32))))) + 1)).toNat (0 : Int)).length ((w64 ((w64 ((u0.length : Int) + (w64 (wu64 (u1.tdiv 32))))) + 1)).toNat)) ?_; intro b3 X; clear V
 refine nlH (S _ _ ?_); clear S a2
 refine wp_seq ?_
 refine sqB X F [] [] [(8, i6 0)] ?_; intro Y aa; clear X
 refine wp_block ?_
 have ab : Fr 61 [] [⟨0, [], .slice ao1 u0.length cap2⟩, ⟨5, [], i6 (w64 (wu64 (u1.tdiv 32)))⟩, ⟨6, [], y6 (u1.tmod 32)⟩, ⟨7, [], .slice (sm c) (List.replicate (w64 ((w64 ((u0.length : Int) + (w64 (wu64 (u1.tdiv 32))))) + 1)).toNat (0 : Int)).length ((w64 ((w64 ((u0.length : Int) + (w64 (wu64 (u1.tdiv 32))))) + 1)).toNat)⟩, ⟨8, [], i6 0⟩] Y := aa.reg; clear aa
 have ac : Fr 61 [] [⟨0, [], .slice ao1 u0.length cap2⟩, ⟨5, [], i6 (w64 (wu64 (u1.tdiv 32)))⟩, ⟨6, [], y6 (u1.tmod 32)⟩, ⟨7, [], .slice (sm c) (List.replicate (w64 ((w64 ((u0.length : Int) + (w64 (wu64 (u1.tdiv 32))))) + 1)).toNat (0 : Int)).length ((w64 ((w64 ((u0.length : Int) + (w64 (wu64 (u1.tdiv 32))))) + 1)).toNat)⟩, ⟨8, [], i6 0⟩] Y := ab.reg; clear ab
 obtain ⟨a5, a7, a8, a9⟩ := a3
 refine lp (ι := Int × (List Int)) (fun (s : Int × (List Int)) => [⟨0, [], .slice ao1 u0.length cap2⟩, ⟨5, [], i6 (w64 (wu64 (u1.tdiv 32)))⟩, ⟨6, [], y6 (u1.tmod 32)⟩, ⟨7, [], .slice (sm c) s.2.length ((w64 ((w64 ((u0.length : Int) + (w64 (wu64 (u1.tdiv 32))))) + 1)).toNat)⟩, ⟨8, [], i6 s.1⟩]) (fun (s : Int × (List Int)) => [.own (tyInt .u32) 143 (sm c) ((w64 ((w64 ((u0.length : Int) + (w64 (wu64 (u1.tdiv 32))))) + 1)).toNat) s.2]) (fun (s : Int × (List Int)) => Z) (fun (s : Int × (List Int)) => a5 s.1 s.2) (fun (s : Int × (List Int)) => a7 s.1 s.2) ⟨0, (List.replicate (w64 ((w64 ((u0.length : Int) + (w64 (wu64 (u1.tdiv 32))))) + 1)).toNat (0 : Int))⟩ a8 (by exact ac.reg) (by exact F) ?_
 rintro ⟨a, d⟩ ba bb y ad ae
 have af : Fr 61 [] [⟨0, [], .slice ao1 u0.length cap2⟩, ⟨5, [], i6 (w64 (wu64 (u1.tdiv 32)))⟩, ⟨6, [], y6 (u1.tmod 32)⟩, ⟨7, [], .slice (sm c) d.length ((w64 ((w64 ((u0.length : Int) + (w64 (wu64 (u1.tdiv 32))))) + 1)).toNat)⟩, ⟨8, [], i6 a⟩] bb := ad; clear ad ac
 have i : Mem w.heap.size [] w Z [.own (tyInt .u32) 143 (sm c) ((w64 ((w64 ((u0.length : Int) + (w64 (wu64 (u1.tdiv 32))))) + 1)).toNat) d] Z y := ae; clear ae F
 have A := a9 a d ba
 refine wp_seq ?_
 refine sqB af i [] [] [(27, .bool (decide (a < (u0.length : Int))))] ?_; intro b4 o; clear af
 refine cd o (t := decide (a < (u0.length : Int))) (by kernel_rfl) (fun G => ?_) (fun G => ?_)
 ·
  have bc := A.1 G; clear A
  refine wp_skip ?_
  refine thn ?_
  refine wp_seq ?_
  refine wp_block ?_
  refine sqH ?_; intro bd ag
  refine bt o i 2 [] [] [(30, .slice ao1 u0.length cap2), (31, i6 a)] ?_; intro b5 ah; clear o
  obtain ⟨be, ai⟩ := bc
  refine ix ah (T := (tyInt .u32)) (xs := u0) hs3 a be (k := .i64) (e := 143) (bytes := 4) (nog rfl _) rfl (by kernel_rfl) rfl (by kernel_rfl) (by kernel_rfl) (by kernel_rfl) ?_; intro l m bf b b6 bg bh bi aj; clear ah
  have bj := ai b bg; clear ai
  obtain rfl : bf = ([.int .u32 b] : List Value) := bi
  refine z1 aj i 33 bh 0 (.int .u32 b) rfl ?_; intro b7 ak; clear aj
  refine bt ak i 2 [] [] [(34, y6 (wu64 b)), (35, y6 (u1.tmod 32))] ?_; intro b8 H; clear ak
  obtain ⟨bk, bl⟩ := bj
  refine st H (y6 (bShl .u64 (wu64 b) (u1.tmod 32))) (nog rfl _) rfl (by kernel_rfl) (shl_run H (g := []) (k' := .u64) rfl (by kernel_rfl) (by kernel_rfl) bk rfl) ?_; intro b9 al; clear H
  refine s1 al 9 (y6 (bShl .u64 (wu64 b) (u1.tmod 32))) ?_; intro ca am; clear al
  refine nlH (ag _ _ ?_); clear ag bd
  refine sqH ?_; intro bm an
  refine bt am i 4 [] [] [(37, .slice (sm c) d.length ((w64 ((w64 ((u0.length : Int) + (w64 (wu64 (u1.tdiv 32))))) + 1)).toNat)), (40, i6 (w64 (a + (w64 (wu64 (u1.tdiv 32))))))] ?_; intro cb ao; clear am
  obtain ⟨bn, ap⟩ := bl
  refine ixo ao i 0 (T := (tyInt .u32)) (xs := d) (w64 (a + (w64 (wu64 (u1.tdiv 32))))) bn (k := .i64) (e := 143) (bytes := 4) (nog rfl _) rfl (by kernel_rfl) rfl (by kernel_rfl) (by kernel_rfl) rfl (by kernel_rfl) ?_; intro bo bp bq aq; clear ao
  obtain rfl : c = bo := by simpa using bq
  have ar : Fr 61 [] [⟨0, [], .slice ao1 u0.length cap2⟩, ⟨5, [], i6 (w64 (wu64 (u1.tdiv 32)))⟩, ⟨6, [], y6 (u1.tmod 32)⟩, ⟨7, [], .slice (sm c) d.length ((w64 ((w64 ((u0.length : Int) + (w64 (wu64 (u1.tdiv 32))))) + 1)).toNat)⟩, ⟨8, [], i6 a⟩, ⟨9, [], y6 (bShl .u64 (wu64 b) (u1.tmod 32))⟩, ⟨27, [], .bool (decide (a < (u0.length : Int)))⟩, ⟨30, [], .slice ao1 u0.length cap2⟩, ⟨31, [], i6 a⟩, ⟨32, [], pt l m⟩, ⟨33, [], .int .u32 b⟩, ⟨34, [], y6 (wu64 b)⟩, ⟨35, [], y6 (u1.tmod 32)⟩, ⟨36, [], y6 (bShl .u64 (wu64 b) (u1.tmod 32))⟩, ⟨37, [], .slice (sm c) d.length ((w64 ((w64 ((u0.length : Int) + (w64 (wu64 (u1.tdiv 32))))) + 1)).toNat)⟩, ⟨40, [], i6 (w64 (a + (w64 (wu64 (u1.tdiv 32)))))⟩, ⟨41, [], .pointer (some ⟨c, (w64 (a + (w64 (wu64 (u1.tdiv 32))))).toNat * 1, none⟩)⟩] bp := aq.reg; clear aq
  have p : Mem w.heap.size [] w Z [.own (tyInt .u32) 143 (sm c) ((w64 ((w64 ((u0.length : Int) + (w64 (wu64 (u1.tdiv 32))))) + 1)).toNat) d] Z y := i; clear i
  obtain ⟨f, br, bs⟩ := gxq ap (by first | omega | (simp only [List.length_set] at *; omega)); clear ap
  obtain ⟨bu, bv, bw⟩ := own_el p 0 (T := (tyInt .u32)) (xs := d) rfl (w64 (a + (w64 (wu64 (u1.tdiv 32))))).toNat br
  obtain rfl : bu = ([.int .u32 f] : List Value) := bv
  refine lc1 ar 42 (.int .u32 f) (bw 0 _ rfl) rfl ?_; intro cc au; clear ar
  refine bt au p 3 [] [] [(45, .int .u32 (bOr .u32 f (wu32 (bShl .u64 (wu64 b) (u1.tmod 32)))))] ?_; intro ce av; clear au
  obtain ⟨bx, bz⟩ := bs
  refine ixo av p 0 (T := (tyInt .u32)) (xs := d) (w64 (a + (w64 (wu64 (u1.tdiv 32))))) bx (k := .i64) (e := 143) (bytes := 4) (nog rfl _) rfl (by kernel_rfl) rfl (by kernel_rfl) (by kernel_rfl) rfl (by kernel_rfl) ?_; intro bA aw bB ax; clear av
  obtain rfl : c = bA := by simpa using bB
  have B : Fr 61 [] [⟨0, [], .slice ao1 u0.length cap2⟩, ⟨5, [], i6 (w64 (wu64 (u1.tdiv 32)))⟩, ⟨6, [], y6 (u1.tmod 32)⟩, ⟨7, [], .slice (sm c) d.length ((w64 ((w64 ((u0.length : Int) + (w64 (wu64 (u1.tdiv 32))))) + 1)).toNat)⟩, ⟨8, [], i6 a⟩, ⟨9, [], y6 (bShl .u64 (wu64 b) (u1.tmod 32))⟩, ⟨27, [], .bool (decide (a < (u0.length : Int)))⟩, ⟨30, [], .slice ao1 u0.length cap2⟩, ⟨31, [], i6 a⟩, ⟨32, [], pt l m⟩, ⟨33, [], .int .u32 b⟩, ⟨34, [], y6 (wu64 b)⟩, ⟨35, [], y6 (u1.tmod 32)⟩, ⟨36, [], y6 (bShl .u64 (wu64 b) (u1.tmod 32))⟩, ⟨37, [], .slice (sm c) d.length ((w64 ((w64 ((u0.length : Int) + (w64 (wu64 (u1.tdiv 32))))) + 1)).toNat)⟩, ⟨40, [], i6 (w64 (a + (w64 (wu64 (u1.tdiv 32)))))⟩, ⟨41, [], .pointer (some ⟨c, (w64 (a + (w64 (wu64 (u1.tdiv 32))))).toNat * 1, none⟩)⟩, ⟨42, [], .int .u32 f⟩, ⟨45, [], .int .u32 (bOr .u32 f (wu32 (bShl .u64 (wu64 b) (u1.tmod 32))))⟩, ⟨46, [], .pointer (some ⟨c, (w64 (a + (w64 (wu64 (u1.tdiv 32))))).toNat * 1, none⟩)⟩] aw := ax.reg; clear ax
  have ay : Mem w.heap.size [] w Z [.own (tyInt .u32) 143 (sm c) ((w64 ((w64 ((u0.length : Int) + (w64 (wu64 (u1.tdiv 32))))) + 1)).toNat) d] Z y := p; clear p
  refine so B ay 0 (T := (tyInt .u32)) (xs := d) (w64 (a + (w64 (wu64 (u1.tdiv 32))))).toNat (bOr .u32 f (wu32 (bShl .u64 (wu64 b) (u1.tmod 32)))) (u := .int .u32 (bOr .u32 f (wu32 (bShl .u64 (wu64 b) (u1.tmod 32))))) (nog rfl _) rfl rfl (by kernel_rfl) rfl (by kernel_rfl) rfl (by kernel_rfl) (by first | omega | (simp only [List.length_set] at *; omega)) rfl ?_; intro I az; clear ay
  have aA : Fr 61 [] [⟨0, [], .slice ao1 u0.length cap2⟩, ⟨5, [], i6 (w64 (wu64 (u1.tdiv 32)))⟩, ⟨6, [], y6 (u1.tmod 32)⟩, ⟨7, [], .slice (sm c) (d.set (w64 (a + (w64 (wu64 (u1.tdiv 32))))).toNat (bOr .u32 f (wu32 (bShl .u64 (wu64 b) (u1.tmod 32))))).length ((w64 ((w64 ((u0.length : Int) + (w64 (wu64 (u1.tdiv 32))))) + 1)).toNat)⟩, ⟨8, [], i6 a⟩, ⟨9, [], y6 (bShl .u64 (wu64 b) (u1.tmod 32))⟩, ⟨27, [], .bool (decide (a < (u0.length : Int)))⟩, ⟨30, [], .slice ao1 u0.length cap2⟩, ⟨31, [], i6 a⟩, ⟨32, [], pt l m⟩, ⟨33, [], .int .u32 b⟩, ⟨34, [], y6 (wu64 b)⟩, ⟨35, [], y6 (u1.tmod 32)⟩, ⟨36, [], y6 (bShl .u64 (wu64 b) (u1.tmod 32))⟩, ⟨37, [], .slice (sm c) (d.set (w64 (a + (w64 (wu64 (u1.tdiv 32))))).toNat (bOr .u32 f (wu32 (bShl .u64 (wu64 b) (u1.tmod 32))))).length ((w64 ((w64 ((u0.length : Int) + (w64 (wu64 (u1.tdiv 32))))) + 1)).toNat)⟩, ⟨40, [], i6 (w64 (a + (w64 (wu64 (u1.tdiv 32)))))⟩, ⟨41, [], .pointer (some ⟨c, (w64 (a + (w64 (wu64 (u1.tdiv 32))))).toNat * 1, none⟩)⟩, ⟨42, [], .int .u32 f⟩, ⟨45, [], .int .u32 (bOr .u32 f (wu32 (bShl .u64 (wu64 b) (u1.tmod 32))))⟩, ⟨46, [], .pointer (some ⟨c, (w64 (a + (w64 (wu64 (u1.tdiv 32))))).toNat * 1, none⟩)⟩] aw := by (try simp only [List.length_set] at B); (try simp only [List.length_set]); exact B.reg
  clear B
  have C : Mem w.heap.size [] w Z [.own (tyInt .u32) 143 (sm c) ((w64 ((w64 ((u0.length : Int) + (w64 (wu64 (u1.tdiv 32))))) + 1)).toNat) (d.set (w64 (a + (w64 (wu64 (u1.tdiv 32))))).toNat (bOr .u32 f (wu32 (bShl .u64 (wu64 b) (u1.tmod 32)))))] Z I := az; clear az
  refine nlH (an _ _ ?_); clear an bm
  refine rgH ?_; intro bC aB
  refine bt aA C 5 [] [] [(47, .slice (sm c) (d.set (w64 (a + (w64 (wu64 (u1.tdiv 32))))).toNat (bOr .u32 f (wu32 (bShl .u64 (wu64 b) (u1.tmod 32))))).length ((w64 ((w64 ((u0.length : Int) + (w64 (wu64 (u1.tdiv 32))))) + 1)).toNat)), (51, i6 (w64 ((w64 (a + (w64 (wu64 (u1.tdiv 32))))) + 1)))] ?_; intro cf aC; clear aA
  obtain ⟨bD, aD⟩ := bz
  refine ixo aC C 0 (T := (tyInt .u32)) (xs := d.set (w64 (a + (w64 (wu64 (u1.tdiv 32))))).toNat (bOr .u32 f (wu32 (bShl .u64 (wu64 b) (u1.tmod 32))))) (w64 ((w64 (a + (w64 (wu64 (u1.tdiv 32))))) + 1)) bD (k := .i64) (e := 143) (bytes := 4) (nog rfl _) rfl (by kernel_rfl) rfl (by kernel_rfl) (by kernel_rfl) rfl (by kernel_rfl) ?_; intro bE bF bG aE; clear aC
  obtain rfl : c = bE := by simpa using bG
  have aF : Fr 61 [] [⟨0, [], .slice ao1 u0.length cap2⟩, ⟨5, [], i6 (w64 (wu64 (u1.tdiv 32)))⟩, ⟨6, [], y6 (u1.tmod 32)⟩, ⟨7, [], .slice (sm c) (d.set (w64 (a + (w64 (wu64 (u1.tdiv 32))))).toNat (bOr .u32 f (wu32 (bShl .u64 (wu64 b) (u1.tmod 32))))).length ((w64 ((w64 ((u0.length : Int) + (w64 (wu64 (u1.tdiv 32))))) + 1)).toNat)⟩, ⟨8, [], i6 a⟩, ⟨9, [], y6 (bShl .u64 (wu64 b) (u1.tmod 32))⟩, ⟨27, [], .bool (decide (a < (u0.length : Int)))⟩, ⟨30, [], .slice ao1 u0.length cap2⟩, ⟨31, [], i6 a⟩, ⟨32, [], pt l m⟩, ⟨33, [], .int .u32 b⟩, ⟨34, [], y6 (wu64 b)⟩, ⟨35, [], y6 (u1.tmod 32)⟩, ⟨36, [], y6 (bShl .u64 (wu64 b) (u1.tmod 32))⟩, ⟨37, [], .slice (sm c) (d.set (w64 (a + (w64 (wu64 (u1.tdiv 32))))).toNat (bOr .u32 f (wu32 (bShl .u64 (wu64 b) (u1.tmod 32))))).length ((w64 ((w64 ((u0.length : Int) + (w64 (wu64 (u1.tdiv 32))))) + 1)).toNat)⟩, ⟨40, [], i6 (w64 (a + (w64 (wu64 (u1.tdiv 32)))))⟩, ⟨41, [], .pointer (some ⟨c, (w64 (a + (w64 (wu64 (u1.tdiv 32))))).toNat * 1, none⟩)⟩, ⟨42, [], .int .u32 f⟩, ⟨45, [], .int .u32 (bOr .u32 f (wu32 (bShl .u64 (wu64 b) (u1.tmod 32))))⟩, ⟨46, [], .pointer (some ⟨c, (w64 (a + (w64 (wu64 (u1.tdiv 32))))).toNat * 1, none⟩)⟩, ⟨47, [], .slice (sm c) (d.set (w64 (a + (w64 (wu64 (u1.tdiv 32))))).toNat (bOr .u32 f (wu32 (bShl .u64 (wu64 b) (u1.tmod 32))))).length ((w64 ((w64 ((u0.length : Int) + (w64 (wu64 (u1.tdiv 32))))) + 1)).toNat)⟩, ⟨51, [], i6 (w64 ((w64 (a + (w64 (wu64 (u1.tdiv 32))))) + 1))⟩, ⟨52, [], .pointer (some ⟨c, (w64 ((w64 (a + (w64 (wu64 (u1.tdiv 32))))) + 1)).toNat * 1, none⟩)⟩] bF := aE.reg; clear aE
  have q : Mem w.heap.size [] w Z [.own (tyInt .u32) 143 (sm c) ((w64 ((w64 ((u0.length : Int) + (w64 (wu64 (u1.tdiv 32))))) + 1)).toNat) (d.set (w64 (a + (w64 (wu64 (u1.tdiv 32))))).toNat (bOr .u32 f (wu32 (bShl .u64 (wu64 b) (u1.tmod 32)))))] Z I := C; clear C
  obtain ⟨h, bH, bI⟩ := gxq aD (by first | omega | (simp only [List.length_set] at *; omega)); clear aD
  obtain ⟨bJ, bK, bL⟩ := own_el q 0 (T := (tyInt .u32)) (xs := d.set (w64 (a + (w64 (wu64 (u1.tdiv 32))))).toNat (bOr .u32 f (wu32 (bShl .u64 (wu64 b) (u1.tmod 32))))) rfl (w64 ((w64 (a + (w64 (wu64 (u1.tdiv 32))))) + 1)).toNat bH
  obtain rfl : bJ = ([.int .u32 h] : List Value) := bK
  refine lc1 aF 53 (.int .u32 h) (bL 0 _ rfl) rfl ?_; intro cg aG; clear aF
  refine bt aG q 4 [] [] [(57, .int .u32 (bOr .u32 h (wu32 (bShr .u64 (bShl .u64 (wu64 b) (u1.tmod 32)) 32))))] ?_; intro ch aH; clear aG
  obtain ⟨bM, aI⟩ := bI
  refine ixo aH q 0 (T := (tyInt .u32)) (xs := d.set (w64 (a + (w64 (wu64 (u1.tdiv 32))))).toNat (bOr .u32 f (wu32 (bShl .u64 (wu64 b) (u1.tmod 32))))) (w64 ((w64 (a + (w64 (wu64 (u1.tdiv 32))))) + 1)) bM (k := .i64) (e := 143) (bytes := 4) (nog rfl _) rfl (by kernel_rfl) rfl (by kernel_rfl) (by kernel_rfl) rfl (by kernel_rfl) ?_; intro bN aJ bO aK; clear aH
  obtain rfl : c = bN := by simpa using bO
  have D : Fr 61 [] [⟨0, [], .slice ao1 u0.length cap2⟩, ⟨5, [], i6 (w64 (wu64 (u1.tdiv 32)))⟩, ⟨6, [], y6 (u1.tmod 32)⟩, ⟨7, [], .slice (sm c) (d.set (w64 (a + (w64 (wu64 (u1.tdiv 32))))).toNat (bOr .u32 f (wu32 (bShl .u64 (wu64 b) (u1.tmod 32))))).length ((w64 ((w64 ((u0.length : Int) + (w64 (wu64 (u1.tdiv 32))))) + 1)).toNat)⟩, ⟨8, [], i6 a⟩, ⟨9, [], y6 (bShl .u64 (wu64 b) (u1.tmod 32))⟩, ⟨27, [], .bool (decide (a < (u0.length : Int)))⟩, ⟨30, [], .slice ao1 u0.length cap2⟩, ⟨31, [], i6 a⟩, ⟨32, [], pt l m⟩, ⟨33, [], .int .u32 b⟩, ⟨34, [], y6 (wu64 b)⟩, ⟨35, [], y6 (u1.tmod 32)⟩, ⟨36, [], y6 (bShl .u64 (wu64 b) (u1.tmod 32))⟩, ⟨37, [], .slice (sm c) (d.set (w64 (a + (w64 (wu64 (u1.tdiv 32))))).toNat (bOr .u32 f (wu32 (bShl .u64 (wu64 b) (u1.tmod 32))))).length ((w64 ((w64 ((u0.length : Int) + (w64 (wu64 (u1.tdiv 32))))) + 1)).toNat)⟩, ⟨40, [], i6 (w64 (a + (w64 (wu64 (u1.tdiv 32)))))⟩, ⟨41, [], .pointer (some ⟨c, (w64 (a + (w64 (wu64 (u1.tdiv 32))))).toNat * 1, none⟩)⟩, ⟨42, [], .int .u32 f⟩, ⟨45, [], .int .u32 (bOr .u32 f (wu32 (bShl .u64 (wu64 b) (u1.tmod 32))))⟩, ⟨46, [], .pointer (some ⟨c, (w64 (a + (w64 (wu64 (u1.tdiv 32))))).toNat * 1, none⟩)⟩, ⟨47, [], .slice (sm c) (d.set (w64 (a + (w64 (wu64 (u1.tdiv 32))))).toNat (bOr .u32 f (wu32 (bShl .u64 (wu64 b) (u1.tmod 32))))).length ((w64 ((w64 ((u0.length : Int) + (w64 (wu64 (u1.tdiv 32))))) + 1)).toNat)⟩, ⟨51, [], i6 (w64 ((w64 (a + (w64 (wu64 (u1.tdiv 32))))) + 1))⟩, ⟨52, [], .pointer (some ⟨c, (w64 ((w64 (a + (w64 (wu64 (u1.tdiv 32))))) + 1)).toNat * 1, none⟩)⟩, ⟨53, [], .int .u32 h⟩, ⟨57, [], .int .u32 (bOr .u32 h (wu32 (bShr .u64 (bShl .u64 (wu64 b) (u1.tmod 32)) 32)))⟩, ⟨58, [], .pointer (some ⟨c, (w64 ((w64 (a + (w64 (wu64 (u1.tdiv 32))))) + 1)).toNat * 1, none⟩)⟩] aJ := aK.reg; clear aK
  have aL : Mem w.heap.size [] w Z [.own (tyInt .u32) 143 (sm c) ((w64 ((w64 ((u0.length : Int) + (w64 (wu64 (u1.tdiv 32))))) + 1)).toNat) (d.set (w64 (a + (w64 (wu64 (u1.tdiv 32))))).toNat (bOr .u32 f (wu32 (bShl .u64 (wu64 b) (u1.tmod 32)))))] Z I := q; clear q
  refine so D aL 0 (T := (tyInt .u32)) (xs := d.set (w64 (a + (w64 (wu64 (u1.tdiv 32))))).toNat (bOr .u32 f (wu32 (bShl .u64 (wu64 b) (u1.tmod 32))))) (w64 ((w64 (a + (w64 (wu64 (u1.tdiv 32))))) + 1)).toNat (bOr .u32 h (wu32 (bShr .u64 (bShl .u64 (wu64 b) (u1.tmod 32)) 32))) (u := .int .u32 (bOr .u32 h (wu32 (bShr .u64 (bShl .u64 (wu64 b) (u1.tmod 32)) 32)))) (nog rfl _) rfl rfl (by kernel_rfl) rfl (by kernel_rfl) rfl (by kernel_rfl) (by first | omega | (simp only [List.length_set] at *; omega)) rfl ?_; intro bP aM; clear aL
  have aN : Fr 61 [] [⟨0, [], .slice ao1 u0.length cap2⟩, ⟨5, [], i6 (w64 (wu64 (u1.tdiv 32)))⟩, ⟨6, [], y6 (u1.tmod 32)⟩, ⟨7, [], .slice (sm c) ((d.set (w64 (a + (w64 (wu64 (u1.tdiv 32))))).toNat (bOr .u32 f (wu32 (bShl .u64 (wu64 b) (u1.tmod 32))))).set (w64 ((w64 (a + (w64 (wu64 (u1.tdiv 32))))) + 1)).toNat (bOr .u32 h (wu32 (bShr .u64 (bShl .u64 (wu64 b) (u1.tmod 32)) 32)))).length ((w64 ((w64 ((u0.length : Int) + (w64 (wu64 (u1.tdiv 32))))) + 1)).toNat)⟩, ⟨8, [], i6 a⟩, ⟨9, [], y6 (bShl .u64 (wu64 b) (u1.tmod 32))⟩, ⟨27, [], .bool (decide (a < (u0.length : Int)))⟩, ⟨30, [], .slice ao1 u0.length cap2⟩, ⟨31, [], i6 a⟩, ⟨32, [], pt l m⟩, ⟨33, [], .int .u32 b⟩, ⟨34, [], y6 (wu64 b)⟩, ⟨35, [], y6 (u1.tmod 32)⟩, ⟨36, [], y6 (bShl .u64 (wu64 b) (u1.tmod 32))⟩, ⟨37, [], .slice (sm c) ((d.set (w64 (a + (w64 (wu64 (u1.tdiv 32))))).toNat (bOr .u32 f (wu32 (bShl .u64 (wu64 b) (u1.tmod 32))))).set (w64 ((w64 (a + (w64 (wu64 (u1.tdiv 32))))) + 1)).toNat (bOr .u32 h (wu32 (bShr .u64 (bShl .u64 (wu64 b) (u1.tmod 32)) 32)))).length ((w64 ((w64 ((u0.length : Int) + (w64 (wu64 (u1.tdiv 32))))) + 1)).toNat)⟩, ⟨40, [], i6 (w64 (a + (w64 (wu64 (u1.tdiv 32)))))⟩, ⟨41, [], .pointer (some ⟨c, (w64 (a + (w64 (wu64 (u1.tdiv 32))))).toNat * 1, none⟩)⟩, ⟨42, [], .int .u32 f⟩, ⟨45, [], .int .u32 (bOr .u32 f (wu32 (bShl .u64 (wu64 b) (u1.tmod 32))))⟩, ⟨46, [], .pointer (some ⟨c, (w64 (a + (w64 (wu64 (u1.tdiv 32))))).toNat * 1, none⟩)⟩, ⟨47, [], .slice (sm c) ((d.set (w64 (a + (w64 (wu64 (u1.tdiv 32))))).toNat (bOr .u32 f (wu32 (bShl .u64 (wu64 b) (u1.tmod 32))))).set (w64 ((w64 (a + (w64 (wu64 (u1.tdiv 32))))) + 1)).toNat (bOr .u32 h (wu32 (bShr .u64 (bShl .u64 (wu64 b) (u1.tmod 32)) 32)))).length ((w64 ((w64 ((u0.length : Int) + (w64 (wu64 (u1.tdiv 32))))) + 1)).toNat)⟩, ⟨51, [], i6 (w64 ((w64 (a + (w64 (wu64 (u1.tdiv 32))))) + 1))⟩, ⟨52, [], .pointer (some ⟨c, (w64 ((w64 (a + (w64 (wu64 (u1.tdiv 32))))) + 1)).toNat * 1, none⟩)⟩, ⟨53, [], .int .u32 h⟩, ⟨57, [], .int .u32 (bOr .u32 h (wu32 (bShr .u64 (bShl .u64 (wu64 b) (u1.tmod 32)) 32)))⟩, ⟨58, [], .pointer (some ⟨c, (w64 ((w64 (a + (w64 (wu64 (u1.tdiv 32))))) + 1)).toNat * 1, none⟩)⟩] aJ := by (try simp only [List.length_set] at D); (try simp only [List.length_set]); exact D.reg
  clear D
  have aO : Mem w.heap.size [] w Z [.own (tyInt .u32) 143 (sm c) ((w64 ((w64 ((u0.length : Int) + (w64 (wu64 (u1.tdiv 32))))) + 1)).toNat) ((d.set (w64 (a + (w64 (wu64 (u1.tdiv 32))))).toNat (bOr .u32 f (wu32 (bShl .u64 (wu64 b) (u1.tmod 32))))).set (w64 ((w64 (a + (w64 (wu64 (u1.tdiv 32))))) + 1)).toNat (bOr .u32 h (wu32 (bShr .u64 (bShl .u64 (wu64 b) (u1.tmod 32)) 32))))] Z bP := aM; clear aM
  refine nlH (aB _ _ ?_); clear aB bC
  refine ibn ?_
  refine thn ?_
  refine rgB aN aO [] [] [(8, i6 (w64 (a + 1)))] ?_; intro ci bQ; clear aN
  refine rd ?_
  exact ⟨⟨w64 (a + 1), (d.set (w64 (a + (w64 (wu64 (u1.tdiv 32))))).toNat (bOr .u32 f (wu32 (bShl .u64 (wu64 b) (u1.tmod 32))))).set (w64 ((w64 (a + (w64 (wu64 (u1.tdiv 32))))) + 1)).toNat (bOr .u32 h (wu32 (bShr .u64 (bShl .u64 (wu64 b) (u1.tmod 32)) 32)))⟩, aI.1, aI.2, (bQ.reg).anyβ _ (by kernel_rfl), aO.keep (List.Sublist.cons_cons _ (List.Sublist.slnil))⟩
 have aP := A.2 G; clear A
 refine wp_exit ?_
 refine thx ?_
 refine thx ?_
 refine ibx ?_
 refine thn ?_
 refine sqH ?_; intro bR aQ
 refine s1 o 59 (.slice (sm c) d.length ((w64 ((w64 ((u0.length : Int) + (w64 (wu64 (u1.tdiv 32))))) + 1)).toNat)) ?_; intro cj aR; clear o
 obtain ⟨bS, aS, aT, J⟩ := i.freeze 0 rfl
 replace hs3 := hs3.mono aS
 replace v := Fz.le.trans v aS
 have L : Mem w.heap.size [] w Z [] bS y := aT; clear aT
 refine ck aR 126 #[.slice (sm c) d.length ((w64 ((w64 ((u0.length : Int) + (w64 (wu64 (u1.tdiv 32))))) + 1)).toNat)] ?_
 refine (gtrim_fun d (sm c) ((w64 ((w64 ((u0.length : Int) + (w64 (wu64 (u1.tdiv 32))))) + 1)).toNat) _ _ J L.fz).mono ?_; rintro _ bT ⟨M, N, aU, rfl, aV, hm⟩; refine ⟨_, rfl, ?_⟩; intro cl aW; have aX := L.callZ hm; have O := hm.ext.le; clear hm L aR
 replace hs3 := hs3.mono O
 replace J := J.mono O
 replace v := Fz.le.trans v O
 have bU : Mem w.heap.size [] w Z [] aU bT := aX; clear aX
 have bV := aP (aV.small); clear aP
 refine s1 aW 4 (.slice M (gtrimS d).length N) ?_; intro cm bW; clear aW
 refine nlH (aQ _ _ ?_); clear aQ bR
 refine wp_ret ?_
 refine ra1 bW (.slice M (gtrimS d).length N) ?_
 exact ⟨(gtrimS d), M, N, aU, rfl, bV, aV, bU.keep (List.Sublist.slnil)⟩

theorem ggive_walk (u0 : BInt) (u1 : Bool) (u2 : List Int) (b1 : Nat) (ao2 : Option Addr) (cap3 : Nat) (ao5 : Option Addr) (cap6 : Nat) (B : Nat) (w0 : World) (Z0 : Fz) (Rr : List Res) (Z : Fz) (w : World) (hs4 : SlR (tyInt .u32) Z ao2 cap3 u0.abs) (hs7 : SlR (tyInt .u32) Z ao5 cap6 u2) (hM0 : Mem B [] w0 Z0 ((.row b1 [.bool u0.neg, .slice ao2 u0.abs.length cap3] 117) :: Rr) Z w) (hZ : Z.on w) {K : BInt → Prop} (hp : ggive_vc u0 u1 u2 K) : Calls Tryz.prog 102 #[pt b1 0, .bool u1, .slice ao5 u2.length cap6] w fun e w' => ∃ (r : BInt) (ao1001 : Option Addr) (cap1002 : Nat) (Z' : Fz), e = .returned (pt b1 0) ∧ K r ∧ Fz.le Z Z' ∧ SlR (tyInt .u32) Z' ao1001 cap1002 r.abs ∧ Mem B [] w0 Z0 ((.row b1 [.bool r.neg, .slice ao1001 r.abs.length cap1002] 117) :: Rr) Z' w' := by
 refine enter0 Tryz.func102 rfl rfl (by kernel_rfl) ?_; intro u d; have m := Fz.le.refl Z
 have f := hp (hs4.small); clear hp
 have n := f (hs7.small); clear f
 refine sqB d hM0 [] [] [] ?_; intro v g; clear d
 refine sqH ?_; intro o h
 refine bt g hM0 4 [] [] [(8, .slice ao5 u2.length cap6), (10, pt b1 1)] ?_; intro x a; clear g
 refine sx a hM0 0 [.bool u0.neg, .slice ao5 u2.length cap6] 1 ?_; intro p i; clear hM0
 have b : Mem B [] w0 Z0 ((.row b1 [.bool u0.neg, .slice ao5 u2.length cap6] 117) :: Rr) Z p := i; clear i
 refine nlH (h _ _ ?_); clear h o
 refine sqH ?_; intro q j
 refine bt a b 9 [] [] [(17, .bool (u1 && (decide ((u2.length : Int) > 0)))), (19, pt b1 0)] ?_; intro y c; clear a
 refine sx c b 0 [.bool (u1 && (decide ((u2.length : Int) > 0))), .slice ao5 u2.length cap6] 0 ?_; intro s k; clear b
 have l : Mem B [] w0 Z0 ((.row b1 [.bool (u1 && (decide ((u2.length : Int) > 0))), .slice ao5 u2.length cap6] 117) :: Rr) Z s := k; clear k
 refine nlH (j _ _ ?_); clear j q
 refine sqB c l [] [] [(6, pt b1 0)] ?_; intro z t; clear c
 refine wp_ret ?_
 refine ra1 t (pt b1 0) ?_
 exact ⟨(⟨u1 && (decide ((u2.length : Int) > 0)), u2⟩ : BInt), ao5, cap6, Z, rfl, n, m, hs7, l.keep (List.Sublist.cons_cons _ (List.Sublist.refl _))⟩
theorem ggive_fun (u0 : BInt) (u1 : Bool) (u2 : List Int) (b1 : Nat) (ao2 : Option Addr) (cap3 : Nat) (ao5 : Option Addr) (cap6 : Nat) (B : Nat) (w0 : World) (Z0 : Fz) (Rr : List Res) (Z : Fz) (w : World) (hs4 : SlR (tyInt .u32) Z ao2 cap3 u0.abs) (hs7 : SlR (tyInt .u32) Z ao5 cap6 u2) (hM0 : Mem B [] w0 Z0 ((.row b1 [.bool u0.neg, .slice ao2 u0.abs.length cap3] 117) :: Rr) Z w) (hZ : Z.on w) : Calls Tryz.prog 102 #[pt b1 0, .bool u1, .slice ao5 u2.length cap6] w fun e w' => ∃ (ao1001 : Option Addr) (cap1002 : Nat) (Z' : Fz), e = .returned (pt b1 0) ∧ Fz.le Z Z' ∧ SlR (tyInt .u32) Z' ao1001 cap1002 (ggive u0 u1 u2).abs ∧ Mem B [] w0 Z0 ((.row b1 [.bool (ggive u0 u1 u2).neg, .slice ao1001 (ggive u0 u1 u2).abs.length cap1002] 117) :: Rr) Z' w' :=
  (ggive_walk u0 u1 u2 b1 ao2 cap3 ao5 cap6 B w0 Z0 Rr Z w hs4 hs7 hM0 hZ (ggive_ok u0 u1 u2)).mono fun _ _ ⟨r, h0, h1, h2, he, hk, f0, f1, hm⟩ => by subst hk; exact ⟨h0, h1, h2, he, f0, f1, hm⟩

theorem glow_walk (u0 : BInt) (u1 : Int) (b1 : Nat) (ao2 : Option Addr) (cap3 : Nat) (B : Nat) (w0 : World) (Z0 : Fz) (Rr : List Res) (Z : Fz) (w : World) (hs4 : SlR (tyInt .u32) Z ao2 cap3 u0.abs) (hM0 : Mem B [] w0 Z0 ((.row b1 [.bool u0.neg, .slice ao2 u0.abs.length cap3] 117) :: Rr) Z w) (hZ : Z.on w) {K : ((List Int) × BInt) → Prop} (hp : glow_vc u0 u1 K) : Calls Tryz.prog 105 #[pt b1 0, i6 u1] w fun e w' => ∃ (r : (List Int) × BInt) (ao1001 : Option Addr) (cap1002 : Nat) (ao1003 : Option Addr) (cap1004 : Nat) (Z' : Fz), e = .returned (.slice ao1001 r.1.length cap1002) ∧ K r ∧ Fz.le Z Z' ∧ SlR (tyInt .u32) Z' ao1003 cap1004 r.2.abs ∧ Mem B [] w0 Z0 ((.own (tyInt .u32) 143 ao1001 cap1002 r.1) :: (.row b1 [.bool r.2.neg, .slice ao1003 r.2.abs.length cap1004] 117) :: Rr) Z' w' := by
 refine enter0 Tryz.func105 rfl rfl (by kernel_rfl) ?_; intro I f; have t := Fz.le.refl Z
 have u := hp (hs4.small); clear hp
 refine sqB f hM0 [] [] [] ?_; intro J g; clear f
 refine sqH ?_; intro v h
 refine s1 g 8 (i6 u1) ?_; intro L i; clear g
 obtain ⟨M, x⟩ := u
 refine mks i hM0 (T := (tyInt .u32)) u1 u1 (k := .i64) (k' := .i64) (e := 143) (bytes := 4) (zs := [.int .u32 0]) (z := 0) (by simp only [lim]; omega) (nog rfl _) rfl (by kernel_rfl) rfl (by kernel_rfl) (by kernel_rfl) (by kernel_rfl) (by kernel_rfl) rfl ?_; intro a N y j l; clear i hM0
 have b : Mem B [] w0 Z0 ((.own (tyInt .u32) 143 (sm a) u1.toNat (List.replicate u1.toNat (0 : Int))) :: (.row b1 [.bool u0.neg, .slice ao2 u0.abs.length cap3] 117) :: Rr) Z y := l; clear l
 refine s1 j 5 (.slice (sm a) (List.replicate u1.toNat (0 : Int)).length u1.toNat) ?_; intro O m; clear j
 refine nlH (h _ _ ?_); clear h v
 refine sqH ?_; intro A n
 refine bt m b 5 [1] [] [(10, .slice (sm a) (List.replicate u1.toNat (0 : Int)).length u1.toNat), (14, .slice ao2 u0.abs.length cap3)] ?_; intro P o; clear m
 refine cpy o b 0 (T := (tyInt .u32)) (xs := (List.replicate u1.toNat (0 : Int))) (ys := u0.abs) (ao := (sm a)) (cap := u1.toNat) (ao1 := (sm a)) (cap1 := u1.toNat) (ao2 := ao2) (cap2 := cap3) (sl := u0.abs.length) 0 ((List.replicate u1.toNat (0 : Int)).length) (e := 143) (bytes := 4) (nog rfl _) rfl (by kernel_rfl) rfl (by kernel_rfl) (by kernel_rfl) rfl (by kernel_rfl) rfl (Src.fz (by decide) b.fz hs4) (by omega) (own_at0 b 0 rfl) ?_; intro C D p q; clear o b
 have E : ((List.replicate u1.toNat (0 : Int)).take 0 ++ u0.abs.take (min u0.abs.length ((List.replicate u1.toNat (0 : Int)).length)) ++ (List.replicate u1.toNat (0 : Int)).drop (0 + min u0.abs.length ((List.replicate u1.toNat (0 : Int)).length))).length = (List.replicate u1.toNat (0 : Int)).length := by simp; try omega
 have s : Fr 41 [] [⟨0, [], pt b1 0⟩, ⟨1, [], i6 u1⟩, ⟨5, [], .slice (sm a) ((List.replicate u1.toNat (0 : Int)).take 0 ++ u0.abs.take (min u0.abs.length ((List.replicate u1.toNat (0 : Int)).length)) ++ (List.replicate u1.toNat (0 : Int)).drop (0 + min u0.abs.length ((List.replicate u1.toNat (0 : Int)).length))).length u1.toNat⟩, ⟨8, [], i6 u1⟩, ⟨9, [], .slice (sm a) ((List.replicate u1.toNat (0 : Int)).take 0 ++ u0.abs.take (min u0.abs.length ((List.replicate u1.toNat (0 : Int)).length)) ++ (List.replicate u1.toNat (0 : Int)).drop (0 + min u0.abs.length ((List.replicate u1.toNat (0 : Int)).length))).length u1.toNat⟩, ⟨10, [], .slice (sm a) ((List.replicate u1.toNat (0 : Int)).take 0 ++ u0.abs.take (min u0.abs.length ((List.replicate u1.toNat (0 : Int)).length)) ++ (List.replicate u1.toNat (0 : Int)).drop (0 + min u0.abs.length ((List.replicate u1.toNat (0 : Int)).length))).length u1.toNat⟩, ⟨14, [], .slice ao2 u0.abs.length cap3⟩, ⟨15, [], i6 ((min u0.abs.length ((List.replicate u1.toNat (0 : Int)).length) : Nat) : Int)⟩] C := by rw [E]; exact p.reg
 clear p
 have c : Mem B [] w0 Z0 ((.own (tyInt .u32) 143 (sm a) u1.toNat ((List.replicate u1.toNat (0 : Int)).take 0 ++ u0.abs.take (min u0.abs.length ((List.replicate u1.toNat (0 : Int)).length)) ++ (List.replicate u1.toNat (0 : Int)).drop (0 + min u0.abs.length ((List.replicate u1.toNat (0 : Int)).length)))) :: (.row b1 [.bool u0.neg, .slice ao2 u0.abs.length cap3] 117) :: Rr) Z D := q; clear q
 refine nlH (n _ _ ?_); clear n A
 refine wp_seq ?_
 refine sqB s c [1] [] [(19, .bool u0.neg)] ?_; intro Q d; clear s
 obtain ⟨F, G⟩ := x
 refine cn d F ?_
 refine wp_skip ?_
 refine thn ?_
 refine sqB d c [] [] [(4, .slice (sm a) ((List.replicate u1.toNat (0 : Int)).take 0 ++ u0.abs.take (min u0.abs.length ((List.replicate u1.toNat (0 : Int)).length)) ++ (List.replicate u1.toNat (0 : Int)).drop (0 + min u0.abs.length ((List.replicate u1.toNat (0 : Int)).length))).length u1.toNat)] ?_; intro R H; clear d
 refine wp_ret ?_
 refine ra1 H (.slice (sm a) ((List.replicate u1.toNat (0 : Int)).take 0 ++ u0.abs.take (min u0.abs.length ((List.replicate u1.toNat (0 : Int)).length)) ++ (List.replicate u1.toNat (0 : Int)).drop (0 + min u0.abs.length ((List.replicate u1.toNat (0 : Int)).length))).length u1.toNat) ?_
 exact ⟨(((List.replicate u1.toNat (0 : Int)).take 0 ++ u0.abs.take (min u0.abs.length ((List.replicate u1.toNat (0 : Int)).length)) ++ (List.replicate u1.toNat (0 : Int)).drop (0 + min u0.abs.length ((List.replicate u1.toNat (0 : Int)).length))), u0), (sm a), u1.toNat, ao2, cap3, Z, rfl, G, t, hs4, c.keep (List.Sublist.cons_cons _ (List.Sublist.cons_cons _ (List.Sublist.refl _)))⟩

theorem guint64_walk (u0 : BInt) (b1 : Nat) (ao2 : Option Addr) (cap3 : Nat) (B : Nat) (w0 : World) (Z0 : Fz) (Rr : List Res) (Z : Fz) (w : World) (hs4 : SlR (tyInt .u32) Z ao2 cap3 u0.abs) (hM0 : Mem B [] w0 Z0 ((.row b1 [.bool u0.neg, .slice ao2 u0.abs.length cap3] 117) :: Rr) Z w) (hZ : Z.on w) {K : (Int × BInt) → Prop} (hp : guint64_vc u0 K) : Calls Tryz.prog 109 #[pt b1 0] w fun e w' => ∃ (r : Int × BInt) (ao1001 : Option Addr) (cap1002 : Nat) (Z' : Fz), e = .returned (y6 r.1) ∧ K r ∧ Fz.le Z Z' ∧ SlR (tyInt .u32) Z' ao1001 cap1002 r.2.abs ∧ Mem B [] w0 Z0 ((.row b1 [.bool r.2.neg, .slice ao1001 r.2.abs.length cap1002] 117) :: Rr) Z' w' := by
 refine enter0 Tryz.func109 rfl rfl (by kernel_rfl) ?_; intro a0 p; have h := Fz.le.refl Z
 have i := hp (hs4.small); clear hp
 refine sqB p hM0 [] [] [] ?_; intro a7 q; clear p
 refine sqB q hM0 [] [] [(3, y6 0)] ?_; intro aw s; clear q
 refine wp_seq ?_
 refine sqB s hM0 [0] [] [(9, .bool (decide ((u0.abs.length : Int) > 0)))] ?_; intro ax d; clear s
 refine cd d (t := decide ((u0.abs.length : Int) > 0)) (by kernel_rfl) (fun m => ?_) (fun m => ?_)
 ·
  have P := i.1 m; clear i
  refine rgH ?_; intro Q u
  refine bt d hM0 4 [0] [] [(13, .slice ao2 u0.abs.length cap3)] ?_; intro ay v; clear d
  obtain ⟨R, x⟩ := P
  refine ix v (T := (tyInt .u32)) (xs := u0.abs) hs4 (0 : Int) R (k := .i64) (e := 143) (bytes := 4) (nog rfl _) rfl (by kernel_rfl) rfl (by kernel_rfl) (by kernel_rfl) (by kernel_rfl) ?_; intro az aA S a aB U V W y; clear v
  have j := x a U; clear x
  obtain rfl : S = ([.int .u32 a] : List Value) := W
  refine z1 y hM0 15 V 0 (.int .u32 a) rfl ?_; intro aC z; clear y
  refine bt z hM0 2 [] [] [(3, y6 (wu64 a))] ?_; intro aD A; clear z
  refine nlH (u _ _ ?_); clear u Q
  refine thn ?_
  refine wp_seq ?_
  refine sqB A hM0 [0] [] [(22, .bool (decide ((u0.abs.length : Int) > 1)))] ?_; intro aE f; clear A
  refine cd f (t := decide ((u0.abs.length : Int) > 1)) (by kernel_rfl) (fun n => ?_) (fun n => ?_)
  ·
   have X := j.1 n; clear j
   refine rgH ?_; intro Y C
   refine bt f hM0 5 [0] [] [(23, y6 (wu64 a)), (27, .slice ao2 u0.abs.length cap3)] ?_; intro aF D; clear f
   obtain ⟨aa, E⟩ := X
   refine ix D (T := (tyInt .u32)) (xs := u0.abs) hs4 (1 : Int) aa (k := .i64) (e := 143) (bytes := 4) (nog rfl _) rfl (by kernel_rfl) rfl (by kernel_rfl) (by kernel_rfl) (by kernel_rfl) ?_; intro aG aH ab b aI ac ad ae F; clear D
   have af := E b ac; clear E
   obtain rfl : ab = ([.int .u32 b] : List Value) := ae
   refine z1 F hM0 29 ad 0 (.int .u32 b) rfl ?_; intro aJ G; clear F
   refine bt G hM0 4 [] [] [(3, y6 (bOr .u64 (wu64 a) (bShl .u64 (wu64 b) 32)))] ?_; intro aK H; clear G
   refine nlH (C _ _ ?_); clear C Y
   refine thn ?_
   refine sqB H hM0 [] [] [(2, y6 (bOr .u64 (wu64 a) (bShl .u64 (wu64 b) 32)))] ?_; intro aL ag; clear H
   refine wp_ret ?_
   refine ra1 ag (y6 (bOr .u64 (wu64 a) (bShl .u64 (wu64 b) 32))) ?_
   exact ⟨(bOr .u64 (wu64 a) (bShl .u64 (wu64 b) 32), u0), ao2, cap3, Z, rfl, af, h, hs4, hM0.keep (List.Sublist.cons_cons _ (List.Sublist.refl _))⟩
  have ah := j.2 n; clear j
  refine wp_skip ?_
  refine thn ?_
  refine sqB f hM0 [] [] [(2, y6 (wu64 a))] ?_; intro aM ai; clear f
  refine wp_ret ?_
  refine ra1 ai (y6 (wu64 a)) ?_
  exact ⟨(wu64 a, u0), ao2, cap3, Z, rfl, ah, h, hs4, hM0.keep (List.Sublist.cons_cons _ (List.Sublist.refl _))⟩
 have l := i.2 m; clear i
 refine wp_skip ?_
 refine thn ?_
 refine wp_seq ?_
 refine sqB d hM0 [0] [] [(22, .bool (decide ((u0.abs.length : Int) > 1)))] ?_; intro aN g; clear d
 refine cd g (t := decide ((u0.abs.length : Int) > 1)) (by kernel_rfl) (fun o => ?_) (fun o => ?_)
 ·
  have aj := l.1 o; clear l
  refine rgH ?_; intro ak I
  refine bt g hM0 5 [0] [] [(23, y6 0), (27, .slice ao2 u0.abs.length cap3)] ?_; intro aO J; clear g
  obtain ⟨al, L⟩ := aj
  refine ix J (T := (tyInt .u32)) (xs := u0.abs) hs4 (1 : Int) al (k := .i64) (e := 143) (bytes := 4) (nog rfl _) rfl (by kernel_rfl) rfl (by kernel_rfl) (by kernel_rfl) (by kernel_rfl) ?_; intro aP aQ am c aR an ao ap M; clear J
  have aq := L c an; clear L
  obtain rfl : am = ([.int .u32 c] : List Value) := ap
  refine z1 M hM0 29 ao 0 (.int .u32 c) rfl ?_; intro aS N; clear M
  refine bt N hM0 4 [] [] [(3, y6 (bOr .u64 0 (bShl .u64 (wu64 c) 32)))] ?_; intro aT O; clear N
  refine nlH (I _ _ ?_); clear I ak
  refine thn ?_
  refine sqB O hM0 [] [] [(2, y6 (bOr .u64 0 (bShl .u64 (wu64 c) 32)))] ?_; intro aU ar; clear O
  refine wp_ret ?_
  refine ra1 ar (y6 (bOr .u64 0 (bShl .u64 (wu64 c) 32))) ?_
  exact ⟨(bOr .u64 0 (bShl .u64 (wu64 c) 32), u0), ao2, cap3, Z, rfl, aq, h, hs4, hM0.keep (List.Sublist.cons_cons _ (List.Sublist.refl _))⟩
 have au := l.2 o; clear l
 refine wp_skip ?_
 refine thn ?_
 refine sqB g hM0 [] [] [(2, y6 0)] ?_; intro aV av; clear g
 refine wp_ret ?_
 refine ra1 av (y6 0) ?_
 exact ⟨(0, u0), ao2, cap3, Z, rfl, au, h, hs4, hM0.keep (List.Sublist.cons_cons _ (List.Sublist.refl _))⟩

end Go.Proofs.YtmbdcehmeiiaoaaGreatDoor
set_option linter.unusedVariables false
set_option linter.unusedSimpArgs false
set_option maxRecDepth 100000
set_option maxHeartbeats 0
namespace Go.Proofs.YtmbdcehmeiiaoaaGreatDoor
open Go.Sy Go.RowKit
theorem gtwin_fun (u0 : List Int) (hpre : u0.length ≤ 1000000) (ao1 : Option Addr) (cap2 : Nat) (Z : Fz) (w : World) (hs3 : SlR (tyInt .u32) Z ao1 cap2 u0) (hZ : Z.on w) : Calls Tryz.prog 127 #[.slice ao1 u0.length cap2] w fun e w' => ∃ (ao1001 : Option Addr) (cap1002 : Nat) (Z' : Fz), e = .returned (.slice ao1001 (gtwinS u0).length cap1002) ∧ Mem w.heap.size [] w Z [.own (tyInt .u32) 143 ao1001 cap1002 (gtwinS u0)] Z' w' :=
  (gtwin_walk u0 ao1 cap2 Z w hs3 hZ (gtwin_ok u0 hpre)).mono fun _ _ ⟨r, h0, h1, h2, he, hk, hm⟩ => by subst hk; exact ⟨h0, h1, h2, he, hm⟩

theorem gwords_fun (u0 : Int) (hpre : 0 ≤ u0 ∧ u0 ≤ 18446744073709551615)  (Z : Fz) (w : World)  (hZ : Z.on w) : Calls Tryz.prog 125 #[y6 u0] w fun e w' => ∃ (ao1001 : Option Addr) (cap1002 : Nat) (Z' : Fz), e = .returned (.slice ao1001 (gwordsS u0).length cap1002) ∧ SlR (tyInt .u32) Z' ao1001 cap1002 (gwordsS u0) ∧ Mem w.heap.size [] w Z [] Z' w' :=
  (gwords_walk u0  Z w  hZ (gwords_ok u0 hpre)).mono fun _ _ ⟨r, h0, h1, h2, he, hk, f0, hm⟩ => by subst hk; exact ⟨h0, h1, h2, he, f0, hm⟩

theorem gadd_fun (u0 : List Int) (u1 : List Int) (hpre : wok u0 ∧ wok u1 ∧ u0.length ≤ 1000000 ∧ u1.length ≤ 1000000) (ao1 : Option Addr) (cap2 : Nat) (ao4 : Option Addr) (cap5 : Nat) (Z : Fz) (w : World) (hs3 : SlR (tyInt .u32) Z ao1 cap2 u0) (hs6 : SlR (tyInt .u32) Z ao4 cap5 u1) (hZ : Z.on w) : Calls Tryz.prog 123 #[.slice ao1 u0.length cap2, .slice ao4 u1.length cap5] w fun e w' => ∃ (ao1001 : Option Addr) (cap1002 : Nat) (Z' : Fz), e = .returned (.slice ao1001 (gaddS u0 u1).length cap1002) ∧ SlR (tyInt .u32) Z' ao1001 cap1002 (gaddS u0 u1) ∧ Mem w.heap.size [] w Z [] Z' w' :=
  (gadd_walk u0 u1 ao1 cap2 ao4 cap5 Z w hs3 hs6 hZ (gadd_ok u0 u1 hpre)).mono fun _ _ ⟨r, h0, h1, h2, he, hk, f0, hm⟩ => by subst hk; exact ⟨h0, h1, h2, he, f0, hm⟩

theorem gmul_fun (u0 : List Int) (u1 : List Int) (hpre : wok u0 ∧ wok u1 ∧ u0.length ≤ 1000 ∧ u1.length ≤ 1000) (ao1 : Option Addr) (cap2 : Nat) (ao4 : Option Addr) (cap5 : Nat) (Z : Fz) (w : World) (hs3 : SlR (tyInt .u32) Z ao1 cap2 u0) (hs6 : SlR (tyInt .u32) Z ao4 cap5 u1) (hZ : Z.on w) : Calls Tryz.prog 124 #[.slice ao1 u0.length cap2, .slice ao4 u1.length cap5] w fun e w' => ∃ (ao1001 : Option Addr) (cap1002 : Nat) (Z' : Fz), e = .returned (.slice ao1001 (gmulS u0 u1).length cap1002) ∧ SlR (tyInt .u32) Z' ao1001 cap1002 (gmulS u0 u1) ∧ Mem w.heap.size [] w Z [] Z' w' :=
  (gmul_walk u0 u1 ao1 cap2 ao4 cap5 Z w hs3 hs6 hZ (gmul_ok u0 u1 hpre)).mono fun _ _ ⟨r, h0, h1, h2, he, hk, f0, hm⟩ => by subst hk; exact ⟨h0, h1, h2, he, f0, hm⟩

theorem gleft_fun (u0 : List Int) (u1 : Int) (hpre : wok u0 ∧ u0.length ≤ 1000 ∧ 0 ≤ u1 ∧ u1 ≤ 100000) (ao1 : Option Addr) (cap2 : Nat) (Z : Fz) (w : World) (hs3 : SlR (tyInt .u32) Z ao1 cap2 u0) (hZ : Z.on w) : Calls Tryz.prog 103 #[.slice ao1 u0.length cap2, y6 u1] w fun e w' => ∃ (ao1001 : Option Addr) (cap1002 : Nat) (Z' : Fz), e = .returned (.slice ao1001 (gleftS u0 u1).length cap1002) ∧ SlR (tyInt .u32) Z' ao1001 cap1002 (gleftS u0 u1) ∧ Mem w.heap.size [] w Z [] Z' w' :=
  (gleft_walk u0 u1 ao1 cap2 Z w hs3 hZ (gleft_ok u0 u1 hpre)).mono fun _ _ ⟨r, h0, h1, h2, he, hk, f0, hm⟩ => by subst hk; exact ⟨h0, h1, h2, he, f0, hm⟩

theorem glow_fun (u0 : BInt) (u1 : Int) (hpre : u0.neg = false ∧ (u0.abs.length : Int) ≤ u1 ∧ u1 ≤ 1000000) (b1 : Nat) (ao2 : Option Addr) (cap3 : Nat) (B : Nat) (w0 : World) (Z0 : Fz) (Rr : List Res) (Z : Fz) (w : World) (hs4 : SlR (tyInt .u32) Z ao2 cap3 u0.abs) (hM0 : Mem B [] w0 Z0 ((.row b1 [.bool u0.neg, .slice ao2 u0.abs.length cap3] 117) :: Rr) Z w) (hZ : Z.on w) : Calls Tryz.prog 105 #[pt b1 0, i6 u1] w fun e w' => ∃ (ao1001 : Option Addr) (cap1002 : Nat) (ao1003 : Option Addr) (cap1004 : Nat) (Z' : Fz), e = .returned (.slice ao1001 (glowS u0 u1).1.length cap1002) ∧ Fz.le Z Z' ∧ SlR (tyInt .u32) Z' ao1003 cap1004 (glowS u0 u1).2.abs ∧ Mem B [] w0 Z0 ((.own (tyInt .u32) 143 ao1001 cap1002 (glowS u0 u1).1) :: (.row b1 [.bool (glowS u0 u1).2.neg, .slice ao1003 (glowS u0 u1).2.abs.length cap1004] 117) :: Rr) Z' w' :=
  (glow_walk u0 u1 b1 ao2 cap3 B w0 Z0 Rr Z w hs4 hM0 hZ (glow_ok u0 u1 hpre)).mono fun _ _ ⟨r, h0, h1, h2, h3, h4, he, hk, f0, f1, hm⟩ => by subst hk; exact ⟨h0, h1, h2, h3, h4, he, f0, f1, hm⟩

theorem guint64_fun (u0 : BInt) (hpre : wok u0.abs) (b1 : Nat) (ao2 : Option Addr) (cap3 : Nat) (B : Nat) (w0 : World) (Z0 : Fz) (Rr : List Res) (Z : Fz) (w : World) (hs4 : SlR (tyInt .u32) Z ao2 cap3 u0.abs) (hM0 : Mem B [] w0 Z0 ((.row b1 [.bool u0.neg, .slice ao2 u0.abs.length cap3] 117) :: Rr) Z w) (hZ : Z.on w) : Calls Tryz.prog 109 #[pt b1 0] w fun e w' => ∃ (ao1001 : Option Addr) (cap1002 : Nat) (Z' : Fz), e = .returned (y6 (guint64S u0).1) ∧ Fz.le Z Z' ∧ SlR (tyInt .u32) Z' ao1001 cap1002 (guint64S u0).2.abs ∧ Mem B [] w0 Z0 ((.row b1 [.bool (guint64S u0).2.neg, .slice ao1001 (guint64S u0).2.abs.length cap1002] 117) :: Rr) Z' w' :=
  (guint64_walk u0 b1 ao2 cap3 B w0 Z0 Rr Z w hs4 hM0 hZ (guint64_ok u0 hpre)).mono fun _ _ ⟨r, h0, h1, h2, he, hk, f0, f1, hm⟩ => by subst hk; exact ⟨h0, h1, h2, he, f0, f1, hm⟩

theorem gof_walk (u0 : BInt) (u1 : List Int) (b1 : Nat) (ao2 : Option Addr) (cap3 : Nat) (ao5 : Option Addr) (cap6 : Nat) (B : Nat) (w0 : World) (Z0 : Fz) (Rr : List Res) (Z : Fz) (w : World) (hs4 : SlR (tyInt .u32) Z ao2 cap3 u0.abs) (hM0 : Mem B [] w0 Z0 ((.row b1 [.bool u0.neg, .slice ao2 u0.abs.length cap3] 117) :: (.own (tyInt .u32) 143 ao5 cap6 u1) :: Rr) Z w) (hZ : Z.on w) {K : BInt → Prop} (hp : gof_vc u0 u1 K) : Calls Tryz.prog 106 #[pt b1 0, .slice ao5 u1.length cap6] w fun e w' => ∃ (r : BInt) (ao1001 : Option Addr) (cap1002 : Nat) (Z' : Fz), e = .returned (pt b1 0) ∧ K r ∧ Fz.le Z Z' ∧ SlR (tyInt .u32) Z' ao1001 cap1002 r.abs ∧ Mem B [] w0 Z0 ((.row b1 [.bool r.neg, .slice ao1001 r.abs.length cap1002] 117) :: Rr) Z' w' := by
 refine enter0 Tryz.func106 rfl rfl (by kernel_rfl) ?_; intro a0 L; have a := Fz.le.refl Z
 have M := hp (hs4.small); clear hp
 have l := M (hM0.ownSmall 1 rfl); clear M
 refine sqB L hM0 [] [] [] ?_; intro a9 N; clear L
 refine wp_seq ?_
 refine sqH ?_; intro O m
 refine bt N hM0 4 [] [] [(10, .bool (decide ((u1.length : Int) > 0)))] ?_; intro ba n; clear N
 rcases Bool.eq_false_or_eq_true (decide ((u1.length : Int) > 0)) with h | h
 ·
  have aG := l.1 h; clear l
  have P := n.reval (d := 10) (c := []) (v := .bool (decide ((u1.length : Int) > 0))) (by kernel_rfl) (.bool true) (by rw [h]); clear n
  refine bt P hM0 4 [] [11, 12, 13, 14] [(11, .slice ao5 u1.length cap6), (14, i6 (w64 ((u1.length : Int) - 1)))] ?_; intro bb u; clear P
  obtain ⟨aH, Q⟩ := aG
  refine ixo u hM0 1 (T := (tyInt .u32)) (xs := u1) (w64 ((u1.length : Int) - 1)) aH (k := .i64) (e := 143) (bytes := 4) (by rw [wanted_of u (b := true) rfl rfl (by kernel_rfl) (by kernel_rfl)]; rfl) rfl (by kernel_rfl) rfl (by kernel_rfl) (by kernel_rfl) rfl (by kernel_rfl) ?_; intro f aI aJ R; clear u
  subst aJ
  have x : Fr 49 [] [⟨0, [], pt b1 0⟩, ⟨1, [], .slice (sm f) u1.length cap6⟩, ⟨10, [], .bool true⟩, ⟨11, [], .slice (sm f) u1.length cap6⟩, ⟨14, [], i6 (w64 ((u1.length : Int) - 1))⟩, ⟨15, [], .pointer (some ⟨f, (w64 ((u1.length : Int) - 1)).toNat * 1, none⟩)⟩] aI := R.reg; clear R
  have o : Mem B [] w0 Z0 ((.row b1 [.bool u0.neg, .slice ao2 u0.abs.length cap3] 117) :: (.own (tyInt .u32) 143 (sm f) cap6 u1) :: Rr) Z w := hM0; clear hM0
  obtain ⟨y, aK, aL⟩ := gxq Q (by first | omega | (simp only [List.length_set] at *; omega)); clear Q
  obtain ⟨aM, aN, aO⟩ := own_el o 1 (T := (tyInt .u32)) (xs := u1) rfl (w64 ((u1.length : Int) - 1)).toNat aK
  obtain rfl : aM = ([.int .u32 y] : List Value) := aN
  refine lc1 x 16 (.int .u32 y) (aO 0 _ rfl) rfl ?_ (hw := (by rw [wanted_of x (b := true) rfl rfl (by kernel_rfl) (by kernel_rfl)]; rfl)); intro bc S; clear x
  refine bt S o 3 [] [17, 18, 19] [(19, .bool ((bShr .u32 y 31) == 1))] ?_; intro bd z; clear S
  refine nlH (m _ _ ?_); clear m O
  obtain ⟨aP, U⟩ := aL
  refine cn z aP ?_
  refine wp_skip ?_
  refine thn ?_
  refine sqH ?_; intro aQ V
  refine bt z o 2 [] [] [(45, pt b1 0), (46, .slice (sm f) u1.length cap6)] ?_; intro be W; clear z
  obtain ⟨aR, X, Y, i⟩ := o.freeze 1 rfl
  replace hs4 := hs4.mono X
  replace a := Fz.le.trans a X
  have A : Mem B [] w0 Z0 ((.row b1 [.bool u0.neg, .slice ao2 u0.abs.length cap3] 117) :: Rr) aR w := Y; clear Y
  refine ck W 126 #[.slice (sm f) u1.length cap6] ?_
  refine (gtrim_fun u1 (sm f) cap6 _ _ i A.fz).mono ?_; rintro _ aS ⟨aa, ab, aT, rfl, p, hm⟩; refine ⟨_, rfl, ?_⟩; intro bf ac; have ad := A.callZ hm; have C := hm.ext.le; clear hm A W
  replace hs4 := hs4.mono C
  replace i := i.mono C
  replace a := Fz.le.trans a C
  have D : Mem B [] w0 Z0 ((.row b1 [.bool u0.neg, .slice ao2 u0.abs.length cap3] 117) :: Rr) aT aS := ad; clear ad
  have ae := U (p.small); clear U
  refine ck ac 102 #[pt b1 0, .bool false, .slice aa (gtrimS u1).length ab] ?_
  obtain ⟨E, aU, af⟩ := hxq ae; clear ae
  have g := ggive_fun u0 false (gtrimS u1) b1 ao2 cap3 aa ab _ _ _ _ _ _ hs4 p D D.fz; rw [aU] at g; refine g.mono ?_; clear g; rintro _ aV ⟨ag, ah, ai, rfl, q, aj, hm⟩; refine ⟨_, rfl, ?_⟩; intro bg ak; have al := hm; clear hm D ac
  replace hs4 := hs4.mono q
  replace i := i.mono q
  replace p := p.mono q
  replace a := Fz.le.trans a q
  have aW : Mem B [] w0 Z0 ((.row b1 [.bool E.neg, .slice ag E.abs.length ah] 117) :: Rr) ai aV := al; clear al
  have aX := af (aj.small); clear af
  refine s1 ak 4 (pt b1 0) ?_; intro bh aY; clear ak
  refine nlH (V _ _ ?_); clear V aQ
  refine wp_ret ?_
  refine ra1 aY (pt b1 0) ?_
  exact ⟨E, ag, ah, ai, rfl, aX, a, aj, aW.keep (List.Sublist.cons_cons _ (List.Sublist.refl _))⟩
 have am := l.2 h; clear l
 have an := n.reval (d := 10) (c := []) (v := .bool (decide ((u1.length : Int) > 0))) (by kernel_rfl) (.bool false) (by rw [h]); clear n
 refine bt an hM0 9 [] [11, 12, 13, 14, 15, 16, 17, 18, 19] [(19, .bool false)] ?_; intro bi F; clear an
 refine nlH (m _ _ ?_); clear m O
 refine cdF F (by kernel_rfl) ?_
 refine wp_skip ?_
 refine thn ?_
 refine sqH ?_; intro aZ ao
 refine bt F hM0 2 [] [] [(45, pt b1 0), (46, .slice ao5 u1.length cap6)] ?_; intro bj ap; clear F
 obtain ⟨a1, aq, ar, j⟩ := hM0.freeze 1 rfl
 replace hs4 := hs4.mono aq
 replace a := Fz.le.trans a aq
 have G : Mem B [] w0 Z0 ((.row b1 [.bool u0.neg, .slice ao2 u0.abs.length cap3] 117) :: Rr) a1 w := ar; clear ar
 refine ck ap 126 #[.slice ao5 u1.length cap6] ?_
 refine (gtrim_fun u1 ao5 cap6 _ _ j G.fz).mono ?_; rintro _ a2 ⟨au, av, a3, rfl, s, hm⟩; refine ⟨_, rfl, ?_⟩; intro bk aw; have ax := G.callZ hm; have H := hm.ext.le; clear hm G ap
 replace hs4 := hs4.mono H
 replace j := j.mono H
 replace a := Fz.le.trans a H
 have I : Mem B [] w0 Z0 ((.row b1 [.bool u0.neg, .slice ao2 u0.abs.length cap3] 117) :: Rr) a3 a2 := ax; clear ax
 have ay := am (s.small); clear am
 refine ck aw 102 #[pt b1 0, .bool false, .slice au (gtrimS u1).length av] ?_
 obtain ⟨J, a4, az⟩ := hxq ay; clear ay
 have g := ggive_fun u0 false (gtrimS u1) b1 ao2 cap3 au av _ _ _ _ _ _ hs4 s I I.fz; rw [a4] at g; refine g.mono ?_; clear g; rintro _ a5 ⟨aA, aB, aC, rfl, t, aD, hm⟩; refine ⟨_, rfl, ?_⟩; intro bl aE; have aF := hm; clear hm I aw
 replace hs4 := hs4.mono t
 replace j := j.mono t
 replace s := s.mono t
 replace a := Fz.le.trans a t
 have a6 : Mem B [] w0 Z0 ((.row b1 [.bool J.neg, .slice aA J.abs.length aB] 117) :: Rr) aC a5 := aF; clear aF
 have a7 := az (aD.small); clear az
 refine s1 aE 4 (pt b1 0) ?_; intro bm a8; clear aE
 refine nlH (ao _ _ ?_); clear ao aZ
 refine wp_ret ?_
 refine ra1 a8 (pt b1 0) ?_
 exact ⟨J, aA, aB, aC, rfl, a7, a, aD, a6.keep (List.Sublist.cons_cons _ (List.Sublist.refl _))⟩

theorem gseti_walk (u0 : BInt) (u1 : Int) (b1 : Nat) (ao2 : Option Addr) (cap3 : Nat) (B : Nat) (w0 : World) (Z0 : Fz) (Rr : List Res) (Z : Fz) (w : World) (hs4 : SlR (tyInt .u32) Z ao2 cap3 u0.abs) (hM0 : Mem B [] w0 Z0 ((.row b1 [.bool u0.neg, .slice ao2 u0.abs.length cap3] 117) :: Rr) Z w) (hZ : Z.on w) {K : BInt → Prop} (hp : gseti_vc u0 u1 K) : Calls Tryz.prog 104 #[pt b1 0, i6 u1] w fun e w' => ∃ (r : BInt) (ao1001 : Option Addr) (cap1002 : Nat) (Z' : Fz), e = .returned (pt b1 0) ∧ K r ∧ Fz.le Z Z' ∧ SlR (tyInt .u32) Z' ao1001 cap1002 r.abs ∧ Mem B [] w0 Z0 ((.row b1 [.bool r.neg, .slice ao1001 r.abs.length cap1002] 117) :: Rr) Z' w' := by
 refine enter0 Tryz.func104 rfl rfl (by kernel_rfl) ?_; intro a0 o; have a := Fz.le.refl Z
 have d := hp (hs4.small); clear hp
 refine sqB o hM0 [] [] [] ?_; intro a7 p; clear o
 refine sqB p hM0 [] [] [(5, y6 (wu64 u1))] ?_; intro aA q; clear p
 refine wp_seq ?_
 refine sqB q hM0 [] [] [(9, .bool (decide (u1 < 0)))] ?_; intro aB c; clear q
 refine cd c (t := decide (u1 < 0)) (by kernel_rfl) (fun h => ?_) (fun h => ?_)
 ·
  have ae := d.1 h; clear d
  refine rgB c hM0 [] [] [(5, y6 (wu64 (0 - (wu64 u1))))] ?_; intro aC s; clear c
  refine thn ?_
  refine sqH ?_; intro af u
  refine bt s hM0 4 [] [] [(12, pt b1 0), (14, .bool (decide (u1 < 0))), (15, y6 (wu64 (0 - (wu64 u1))))] ?_; intro aD v; clear s
  obtain ⟨ag, x⟩ := ae
  refine ck v 125 #[y6 (wu64 (0 - (wu64 u1)))] ?_
  refine (gwords_fun (wu64 (0 - (wu64 u1))) ag _ _ hM0.fz).mono ?_; rintro _ ah ⟨y, z, ai, rfl, f, hm⟩; refine ⟨_, rfl, ?_⟩; intro aE A; have C := hM0.callZ hm; have D := hm.ext.le; clear hm hM0 v
  replace hs4 := hs4.mono D
  replace a := Fz.le.trans a D
  have i : Mem B [] w0 Z0 ((.row b1 [.bool u0.neg, .slice ao2 u0.abs.length cap3] 117) :: Rr) ai ah := C; clear C
  have E := x (f.small); clear x
  refine ck A 102 #[pt b1 0, .bool (decide (u1 < 0)), .slice y (gwordsS (wu64 (0 - (wu64 u1)))).length z] ?_
  obtain ⟨j, aj, F⟩ := hxq E; clear E
  have b := ggive_fun u0 (decide (u1 < 0)) (gwordsS (wu64 (0 - (wu64 u1)))) b1 ao2 cap3 y z _ _ _ _ _ _ hs4 f i i.fz; rw [aj] at b; refine b.mono ?_; clear b; rintro _ ak ⟨G, H, I, rfl, k, J, hm⟩; refine ⟨_, rfl, ?_⟩; intro aF L; have M := hm; clear hm i A
  replace hs4 := hs4.mono k
  replace f := f.mono k
  replace a := Fz.le.trans a k
  have al : Mem B [] w0 Z0 ((.row b1 [.bool j.neg, .slice G j.abs.length H] 117) :: Rr) I ak := M; clear M
  have am := F (J.small); clear F
  refine s1 L 4 (pt b1 0) ?_; intro aG an; clear L
  refine nlH (u _ _ ?_); clear u af
  refine wp_ret ?_
  refine ra1 an (pt b1 0) ?_
  exact ⟨j, G, H, I, rfl, am, a, J, al.keep (List.Sublist.cons_cons _ (List.Sublist.refl _))⟩
 have ao := d.2 h; clear d
 refine wp_skip ?_
 refine thn ?_
 refine sqH ?_; intro ap N
 refine bt c hM0 4 [] [] [(12, pt b1 0), (14, .bool (decide (u1 < 0))), (15, y6 (wu64 u1))] ?_; intro aH O; clear c
 obtain ⟨aq, P⟩ := ao
 refine ck O 125 #[y6 (wu64 u1)] ?_
 refine (gwords_fun (wu64 u1) aq _ _ hM0.fz).mono ?_; rintro _ ar ⟨Q, R, au, rfl, g, hm⟩; refine ⟨_, rfl, ?_⟩; intro aI S; have T := hM0.callZ hm; have U := hm.ext.le; clear hm hM0 O
 replace hs4 := hs4.mono U
 replace a := Fz.le.trans a U
 have l : Mem B [] w0 Z0 ((.row b1 [.bool u0.neg, .slice ao2 u0.abs.length cap3] 117) :: Rr) au ar := T; clear T
 have V := P (g.small); clear P
 refine ck S 102 #[pt b1 0, .bool (decide (u1 < 0)), .slice Q (gwordsS (wu64 u1)).length R] ?_
 obtain ⟨m, av, W⟩ := hxq V; clear V
 have b := ggive_fun u0 (decide (u1 < 0)) (gwordsS (wu64 u1)) b1 ao2 cap3 Q R _ _ _ _ _ _ hs4 g l l.fz; rw [av] at b; refine b.mono ?_; clear b; rintro _ aw ⟨X, Y, aa, rfl, n, ab, hm⟩; refine ⟨_, rfl, ?_⟩; intro aJ ac; have ad := hm; clear hm l S
 replace hs4 := hs4.mono n
 replace g := g.mono n
 replace a := Fz.le.trans a n
 have ax : Mem B [] w0 Z0 ((.row b1 [.bool m.neg, .slice X m.abs.length Y] 117) :: Rr) aa aw := ad; clear ad
 have ay := W (ab.small); clear W
 refine s1 ac 4 (pt b1 0) ?_; intro aK az; clear ac
 refine nlH (N _ _ ?_); clear N ap
 refine wp_ret ?_
 refine ra1 az (pt b1 0) ?_
 exact ⟨m, X, Y, aa, rfl, ay, a, ab, ax.keep (List.Sublist.cons_cons _ (List.Sublist.refl _))⟩

theorem glsh_walk (u0 : BInt) (u1 : BInt) (u2 : Int) (b1 : Nat) (ao2 : Option Addr) (cap3 : Nat) (b5 : Nat) (ao6 : Option Addr) (cap7 : Nat) (B : Nat) (w0 : World) (Z0 : Fz) (Rr : List Res) (Z : Fz) (w : World) (hs4 : SlR (tyInt .u32) Z ao2 cap3 u0.abs) (hs8 : SlR (tyInt .u32) Z ao6 cap7 u1.abs) (hM0 : Mem B [] w0 Z0 ((.row b1 [.bool u0.neg, .slice ao2 u0.abs.length cap3] 117) :: (.row b5 [.bool u1.neg, .slice ao6 u1.abs.length cap7] 117) :: Rr) Z w) (hZ : Z.on w) {K : (BInt × BInt) → Prop} (hp : glsh_vc u0 u1 u2 K) : Calls Tryz.prog 80 #[pt b1 0, pt b5 0, y6 u2] w fun e w' => ∃ (r : BInt × BInt) (ao1001 : Option Addr) (cap1002 : Nat) (ao1004 : Option Addr) (cap1005 : Nat) (Z' : Fz), e = .returned (pt b1 0) ∧ K r ∧ Fz.le Z Z' ∧ SlR (tyInt .u32) Z' ao1001 cap1002 r.1.abs ∧ SlR (tyInt .u32) Z' ao1004 cap1005 r.2.abs ∧ Mem B [] w0 Z0 ((.row b1 [.bool r.1.neg, .slice ao1001 r.1.abs.length cap1002] 117) :: (.row b5 [.bool r.2.neg, .slice ao1004 r.2.abs.length cap1005] 117) :: Rr) Z' w' := by
 refine enter0 Tryz.func80 rfl rfl (by kernel_rfl) ?_; intro Q i; have b := Fz.le.refl Z
 have j := hp (hs4.small); clear hp
 have D := j (hs8.small); clear j
 refine sqB i hM0 [] [] [] ?_; intro E k; clear i
 have l : Fr 19 [] [⟨0, [], pt b1 0⟩, ⟨1, [], pt b5 0⟩, ⟨2, [], y6 u2⟩] E := k.reg; clear k
 refine wp_seq (rgS mixed hM0 [(0, true), (1, true), (2, true), (3, true), (4, true), (5, true), (6, true), (7, true), (8, true), (9, true), (10, false), (11, false), (12, true)] [1] [.row b5 [.bool u1.neg, .slice ao6 u1.abs.length cap7] 117] ?_)
 intro F m R g; clear hM0
 have a := Fz.le.refl Z
 refine cS l 10 [0, 0] [] [(7, pt b1 0), (11, .bool u1.neg), (15, .slice ao6 u1.abs.length cap7), (16, y6 u2)] ?_; intro S n; clear l
 refine eS rfl ?_; intro G o
 obtain ⟨H, I⟩ := D
 refine ck n 103 #[.slice ao6 u1.abs.length cap7, y6 u2] ?_
 refine (gleft_fun u1.abs u2 H ao6 cap7 _ _ hs8 g.fz).mono ?_; rintro _ J ⟨p, q, L, rfl, h, hm⟩; refine ⟨_, rfl, ?_⟩; intro T s; have t := g.callZ hm; have d := hm.ext.le; clear hm g n
 replace hs4 := hs4.mono d
 replace hs8 := hs8.mono d
 replace a := a.mono d
 replace b := Fz.le.trans b d
 have f : Mem B [] w0 Z0 ((.row b1 [.bool u0.neg, .slice ao2 u0.abs.length cap3] 117) :: (.row b5 [.bool u1.neg, .slice ao6 u1.abs.length cap7] 117) :: Rr) L J := t; clear t
 refine nl (qnI (o _ _ (f.cst a [1]) ?_)); clear o G
 refine eS rfl ?_; intro M u
 refine ck s 102 #[pt b1 0, .bool u1.neg, .slice p (gleftS u1.abs u2).length q] ?_
 refine (ggive_fun u0 u1.neg (gleftS u1.abs u2) b1 ao2 cap3 p q _ _ _ _ _ _ hs4 h f f.fz).mono ?_; rintro _ N ⟨v, x, y, rfl, c, O, hm⟩; refine ⟨_, rfl, ?_⟩; intro U z; have A := hm; clear hm f s
 replace hs4 := hs4.mono c
 replace hs8 := hs8.mono c
 replace a := a.mono c
 replace h := h.mono c
 replace b := Fz.le.trans b c
 have C : Mem B [] w0 Z0 ((.row b1 [.bool ((ggive u0 u1.neg (gleftS u1.abs u2)).neg), .slice v ((ggive u0 u1.neg (gleftS u1.abs u2)).abs).length x] 117) :: (.row b5 [.bool u1.neg, .slice ao6 u1.abs.length cap7] 117) :: Rr) y N := A; clear A
 refine nl (qnI (u _ _ (C.cst a [1]) ?_)); clear u M
 refine cS z 1 [] [] [(6, pt b1 0)] ?_; intro V P; clear z
 refine nS (m _ _ ?_); clear m F
 refine thn ?_
 refine wp_ret ?_
 refine ra1 P (pt b1 0) ?_
 exact ⟨((ggive u0 u1.neg (gleftS u1.abs u2)), u1), v, x, ao6, cap7, y, rfl, I, b, O, hs8, C.keep (List.Sublist.cons_cons _ (List.Sublist.cons_cons _ (List.Sublist.refl _)))⟩

theorem glshA_walk (u0 : BInt) (u2 : Int) (b1 : Nat) (ao2 : Option Addr) (cap3 : Nat) (B : Nat) (w0 : World) (Z0 : Fz) (Rr : List Res) (Z : Fz) (w : World) (hs4 : SlR (tyInt .u32) Z ao2 cap3 u0.abs) (hM0 : Mem B [] w0 Z0 ((.row b1 [.bool u0.neg, .slice ao2 u0.abs.length cap3] 117) :: Rr) Z w) (hZ : Z.on w) {K : BInt → Prop} (hp : glshA_vc u0 u2 K) : Calls Tryz.prog 80 #[pt b1 0, pt b1 0, y6 u2] w fun e w' => ∃ (r : BInt) (ao1001 : Option Addr) (cap1002 : Nat) (Z' : Fz), e = .returned (pt b1 0) ∧ K r ∧ Fz.le Z Z' ∧ SlR (tyInt .u32) Z' ao1001 cap1002 r.abs ∧ Mem B [] w0 Z0 ((.row b1 [.bool r.neg, .slice ao1001 r.abs.length cap1002] 117) :: Rr) Z' w' := by
 refine enter0 Tryz.func80 rfl rfl (by kernel_rfl) ?_; intro a0 av; have d := Fz.le.refl Z
 have aE := hp (hs4.small); clear hp
 refine sqB av hM0 [] [] [] ?_; intro y aw; clear av
 have aF : Fr 19 [] [⟨0, [], pt b1 0⟩, ⟨1, [], pt b1 0⟩, ⟨2, [], y6 u2⟩] y := aw.reg; clear aw
 obtain ⟨aG, aH⟩ := aE
 refine wp_seq (any_invE mixed [[], [], [1], [2], [3], [], [5], [6], [7], [], [8, 9], [0, 4, 10], [0, 1, 2, 3, 4, 5, 6, 7, 8, 9, 10, 11]] 13 (fun S a w1 => ∃ (j : Option Addr) (k : Nat) (p : Option Addr) (q : Nat) (s : Value) (z : Value) (Y : Value) (T : Value) (M : Value) (C : Value) (ad : Value) (aa : Value) (U : Value) (N : Value) (O : Value) (D : Value) (x : Value) (ai : Res) (f : Fz), Fz.le Z f ∧ Fr 19 [] [⟨0, [], pt b1 0⟩, ⟨1, [], pt b1 0⟩, ⟨2, [], y6 u2⟩, ⟨6, [], s⟩, ⟨7, [], z⟩, ⟨8, [], Y⟩, ⟨9, [], T⟩, ⟨10, [], M⟩, ⟨11, [], C⟩, ⟨12, [], ad⟩, ⟨13, [], aa⟩, ⟨14, [], U⟩, ⟨15, [], N⟩, ⟨16, [], O⟩, ⟨17, [], D⟩, ⟨18, [], x⟩] a ∧ Mem B [] w0 Z0 (ai :: Rr) f w1 ∧ (S 12 = true → s = pt b1 0) ∧ (S 0 = true → z = pt b1 0) ∧ (S 1 = true → Y = pt b1 0) ∧ (S 2 = true → T = pt b1 0) ∧ (S 3 = true → M = pt b1 0) ∧ (S 4 = true → C = .bool u0.neg) ∧ (S 5 = true → ad = pt b1 0) ∧ (S 6 = true → aa = pt b1 0) ∧ (S 7 = true → U = pt b1 1) ∧ (S 8 = true → N = .slice ao2 u0.abs.length cap3) ∧ (S 9 = true → O = y6 u2) ∧ (S 10 = true → D = .slice j (gleftS u0.abs u2).length k) ∧ (S 11 = true → x = pt b1 0) ∧ (S 11 = false → ai = .row b1 [.bool u0.neg, .slice ao2 u0.abs.length cap3] 117) ∧ (S 11 = true → ai = .row b1 [.bool ((ggive u0 u0.neg (gleftS u0.abs u2)).neg), .slice p ((ggive u0 u0.neg (gleftS u0.abs u2)).abs).length q] 117) ∧ (S 10 = true → SlR (tyInt .u32) f j k (gleftS u0.abs u2)) ∧ (S 11 = true → SlR (tyInt .u32) f p q ((ggive u0 u0.neg (gleftS u0.abs u2)).abs))) ?h0 ?hs ?hE)
 case h0 =>
  have aI := aF.any 6
  have aJ := aI.any 7
  have aK := aJ.any 8
  have aL := aK.any 9
  have aM := aL.any 10
  have aN := aM.any 11
  have aO := aN.any 12
  have aP := aO.any 13
  have aQ := aP.any 14
  have aR := aQ.any 15
  have aS := aR.any 16
  have aT := aS.any 17
  have aU := aT.any 18
  have aV := (hM0.perm lpr).drew
  exact ⟨none, 0, none, 0, y.tmps.getD 6 undef, y.tmps.getD 7 undef, y.tmps.getD 8 undef, y.tmps.getD 9 undef, y.tmps.getD 10 undef, y.tmps.getD 11 undef, y.tmps.getD 12 undef, y.tmps.getD 13 undef, y.tmps.getD 14 undef, y.tmps.getD 15 undef, y.tmps.getD 16 undef, y.tmps.getD 17 undef, y.tmps.getD 18 undef, .row b1 [.bool u0.neg, .slice ao2 u0.abs.length cap3] 117, Z, Fz.le.refl _, aU.reg, aV, ff, ff, ff, ff, ff, ff, ff, ff, ff, ff, ff, ff, ff, kf, ff, ff, ff⟩
 case hs =>
  intro S hcl i o hil hi hSi hpre a w1 hI; refine Go.Sy.hid ?_; intro G hG; obtain ⟨j, k, p, q, s, z, Y, T, M, C, ad, aa, U, N, O, D, x, ai, f, c, hFx, hMx, ax, E, F, P, V, ab, H, Q, W, ac, I, ae, al, R, am, af, hI⟩ := hI; have an := hI; clear hI
  have hcase : i = 0 ∨ i = 1 ∨ i = 2 ∨ i = 3 ∨ i = 4 ∨ i = 5 ∨ i = 6 ∨ i = 7 ∨ i = 8 ∨ i = 9 ∨ i = 10 ∨ i = 11 ∨ i = 12 := by clear hi; omega
  rcases hcase with rfl | rfl | rfl | rfl | rfl | rfl | rfl | rfl | rfl | rfl | rfl | rfl | rfl
  ·
   obtain rfl := oj hi
   have ah := hSi
   have b := ngF hcl 11 0 ah
   have h := ngF hcl 12 0 ah
   obtain rfl := R b
   refine hG (any_step ?_); clear hG G; intro A J hJ
   have d := Fz.le.trans d c
   have hzst := Fz.le.refl f
   have bk := hs4.mono c
   refine s1 hFx 7 (pt b1 0) ?_; intro bl aW; clear hFx
   refine nl (qnI (hJ _ _ ?_)); clear hJ J
   exact ⟨j, k, p, q, s, pt b1 0, Y, T, M, C, ad, aa, U, N, O, D, x, .row b1 [.bool u0.neg, .slice ao2 u0.abs.length cap3] 117, f, c, aW.reg, hMx.perm lpr, (nt h), kf, F, P, V, ab, H, Q, W, ac, I, ae, (nt b), kf, (nt b), af, (nt b)⟩
  ·
   obtain rfl := oj hi
   have X := hSi
   have t := ngF hcl 2 1 X
   have u := ngF hcl 3 2 t
   have v := ngF hcl 4 3 u
   have b := ngF hcl 11 4 v
   have h := ngF hcl 12 1 X
   obtain rfl := R b
   refine hG (any_step ?_); clear hG G; intro A J hJ
   have d := Fz.le.trans d c
   have hzst := Fz.le.refl f
   have bm := hs4.mono c
   refine s1 hFx 8 (pt b1 0) ?_; intro bn aX; clear hFx
   refine nl (qnI (hJ _ _ ?_)); clear hJ J
   exact ⟨j, k, p, q, s, z, pt b1 0, T, M, C, ad, aa, U, N, O, D, x, .row b1 [.bool u0.neg, .slice ao2 u0.abs.length cap3] 117, f, c, aX.reg, hMx.perm lpr, (nt h), E, kf, (nt t), (nt u), (nt v), H, Q, W, ac, I, ae, (nt b), kf, (nt b), af, (nt b)⟩
  ·
   obtain rfl := oj hi
   have X := hpre 1 (by kernel_rfl)
   have t := hSi
   have u := ngF hcl 3 2 t
   have v := ngF hcl 4 3 u
   have b := ngF hcl 11 4 v
   have h := ngF hcl 12 2 t
   obtain rfl := F X
   obtain rfl := R b
   refine hG (any_step ?_); clear hG G; intro A J hJ
   have d := Fz.le.trans d c
   have hzst := Fz.le.refl f
   have bo := hs4.mono c
   refine s1 hFx 9 (pt b1 0) ?_; intro bp aY; clear hFx
   refine nl (qnI (hJ _ _ ?_)); clear hJ J
   exact ⟨j, k, p, q, s, z, pt b1 0, pt b1 0, M, C, ad, aa, U, N, O, D, x, .row b1 [.bool u0.neg, .slice ao2 u0.abs.length cap3] 117, f, c, aY.reg, hMx.perm lpr, (nt h), E, kf, kf, (nt u), (nt v), H, Q, W, ac, I, ae, (nt b), kf, (nt b), af, (nt b)⟩
  ·
   obtain rfl := oj hi
   have t := hpre 2 (by kernel_rfl)
   have X := hcl 2 1 (by kernel_rfl) t
   have u := hSi
   have v := ngF hcl 4 3 u
   have b := ngF hcl 11 4 v
   have h := ngF hcl 12 3 u
   obtain rfl := F X
   obtain rfl := P t
   obtain rfl := R b
   refine hG (any_step ?_); clear hG G; intro A J hJ
   have d := Fz.le.trans d c
   have hzst := Fz.le.refl f
   have bq := hs4.mono c
   refine s1 hFx 10 (pt b1 0) ?_; intro br aZ; clear hFx
   refine nl (qnI (hJ _ _ ?_)); clear hJ J
   exact ⟨j, k, p, q, s, z, pt b1 0, pt b1 0, pt b1 0, C, ad, aa, U, N, O, D, x, .row b1 [.bool u0.neg, .slice ao2 u0.abs.length cap3] 117, f, c, aZ.reg, hMx.perm lpr, (nt h), E, kf, kf, kf, (nt v), H, Q, W, ac, I, ae, (nt b), kf, (nt b), af, (nt b)⟩
  ·
   obtain rfl := oj hi
   have u := hpre 3 (by kernel_rfl)
   have t := hcl 3 2 (by kernel_rfl) u
   have X := hcl 2 1 (by kernel_rfl) t
   have v := hSi
   have b := ngF hcl 11 4 v
   have h := ngF hcl 12 4 v
   obtain rfl := F X
   obtain rfl := P t
   obtain rfl := V u
   obtain rfl := R b
   refine hG (any_step ?_); clear hG G; intro A J hJ
   have d := Fz.le.trans d c
   have hzst := Fz.le.refl f
   have bs := hs4.mono c
   refine l1 hFx hMx 11 0 0 (.bool u0.neg) rfl rfl ?_; intro bt a1; clear hFx
   refine nl (qnI (hJ _ _ ?_)); clear hJ J
   exact ⟨j, k, p, q, s, z, pt b1 0, pt b1 0, pt b1 0, .bool u0.neg, ad, aa, U, N, O, D, x, .row b1 [.bool u0.neg, .slice ao2 u0.abs.length cap3] 117, f, c, a1.reg, hMx.perm lpr, (nt h), E, kf, kf, kf, kf, H, Q, W, ac, I, ae, (nt b), kf, (nt b), af, (nt b)⟩
  ·
   obtain rfl := oj hi
   have L := hSi
   have l := ngF hcl 6 5 L
   have m := ngF hcl 7 6 l
   have n := ngF hcl 8 7 m
   have g := ngF hcl 10 8 n
   have b := ngF hcl 11 10 g
   have h := ngF hcl 12 5 L
   obtain rfl := R b
   refine hG (any_step ?_); clear hG G; intro A J hJ
   have d := Fz.le.trans d c
   have hzst := Fz.le.refl f
   have bu := hs4.mono c
   refine s1 hFx 12 (pt b1 0) ?_; intro bv a2; clear hFx
   refine nl (qnI (hJ _ _ ?_)); clear hJ J
   exact ⟨j, k, p, q, s, z, Y, T, M, C, pt b1 0, aa, U, N, O, D, x, .row b1 [.bool u0.neg, .slice ao2 u0.abs.length cap3] 117, f, c, a2.reg, hMx.perm lpr, (nt h), E, F, P, V, ab, kf, (nt l), (nt m), (nt n), I, (nt g), (nt b), kf, (nt b), (nt g), (nt b)⟩
  ·
   obtain rfl := oj hi
   have L := hpre 5 (by kernel_rfl)
   have l := hSi
   have m := ngF hcl 7 6 l
   have n := ngF hcl 8 7 m
   have g := ngF hcl 10 8 n
   have b := ngF hcl 11 10 g
   have h := ngF hcl 12 6 l
   obtain rfl := H L
   obtain rfl := R b
   refine hG (any_step ?_); clear hG G; intro A J hJ
   have d := Fz.le.trans d c
   have hzst := Fz.le.refl f
   have bw := hs4.mono c
   refine s1 hFx 13 (pt b1 0) ?_; intro bx a3; clear hFx
   refine nl (qnI (hJ _ _ ?_)); clear hJ J
   exact ⟨j, k, p, q, s, z, Y, T, M, C, pt b1 0, pt b1 0, U, N, O, D, x, .row b1 [.bool u0.neg, .slice ao2 u0.abs.length cap3] 117, f, c, a3.reg, hMx.perm lpr, (nt h), E, F, P, V, ab, kf, kf, (nt m), (nt n), I, (nt g), (nt b), kf, (nt b), (nt g), (nt b)⟩
  ·
   obtain rfl := oj hi
   have l := hpre 6 (by kernel_rfl)
   have L := hcl 6 5 (by kernel_rfl) l
   have m := hSi
   have n := ngF hcl 8 7 m
   have g := ngF hcl 10 8 n
   have b := ngF hcl 11 10 g
   have h := ngF hcl 12 7 m
   obtain rfl := H L
   obtain rfl := Q l
   obtain rfl := R b
   refine hG (any_step ?_); clear hG G; intro A J hJ
   have d := Fz.le.trans d c
   have hzst := Fz.le.refl f
   have bz := hs4.mono c
   refine s1 hFx 14 (pt b1 1) ?_; intro bA a4; clear hFx
   refine nl (qnI (hJ _ _ ?_)); clear hJ J
   exact ⟨j, k, p, q, s, z, Y, T, M, C, pt b1 0, pt b1 0, pt b1 1, N, O, D, x, .row b1 [.bool u0.neg, .slice ao2 u0.abs.length cap3] 117, f, c, a4.reg, hMx.perm lpr, (nt h), E, F, P, V, ab, kf, kf, kf, (nt n), I, (nt g), (nt b), kf, (nt b), (nt g), (nt b)⟩
  ·
   obtain rfl := oj hi
   have m := hpre 7 (by kernel_rfl)
   have l := hcl 7 6 (by kernel_rfl) m
   have L := hcl 6 5 (by kernel_rfl) l
   have n := hSi
   have g := ngF hcl 10 8 n
   have b := ngF hcl 11 10 g
   have h := ngF hcl 12 8 n
   obtain rfl := H L
   obtain rfl := Q l
   obtain rfl := W m
   obtain rfl := R b
   refine hG (any_step ?_); clear hG G; intro A J hJ
   have d := Fz.le.trans d c
   have hzst := Fz.le.refl f
   have bB := hs4.mono c
   refine l1 hFx hMx 15 0 1 (.slice ao2 u0.abs.length cap3) rfl rfl ?_; intro bC a5; clear hFx
   refine nl (qnI (hJ _ _ ?_)); clear hJ J
   exact ⟨j, k, p, q, s, z, Y, T, M, C, pt b1 0, pt b1 0, pt b1 1, .slice ao2 u0.abs.length cap3, O, D, x, .row b1 [.bool u0.neg, .slice ao2 u0.abs.length cap3] 117, f, c, a5.reg, hMx.perm lpr, (nt h), E, F, P, V, ab, kf, kf, kf, kf, I, (nt g), (nt b), kf, (nt b), (nt g), (nt b)⟩
  ·
   obtain rfl := oj hi
   have ag := hSi
   have g := ngF hcl 10 9 ag
   have b := ngF hcl 11 10 g
   have h := ngF hcl 12 9 ag
   obtain rfl := R b
   refine hG (any_step ?_); clear hG G; intro A J hJ
   have d := Fz.le.trans d c
   have hzst := Fz.le.refl f
   have bD := hs4.mono c
   refine s1 hFx 16 (y6 u2) ?_; intro bE a6; clear hFx
   refine nl (qnI (hJ _ _ ?_)); clear hJ J
   exact ⟨j, k, p, q, s, z, Y, T, M, C, ad, aa, U, N, y6 u2, D, x, .row b1 [.bool u0.neg, .slice ao2 u0.abs.length cap3] 117, f, c, a6.reg, hMx.perm lpr, (nt h), E, F, P, V, ab, H, Q, W, ac, kf, (nt g), (nt b), kf, (nt b), (nt g), (nt b)⟩
  ·
   obtain rfl := oj hi
   have ag := hpre 9 (by kernel_rfl)
   have n := hpre 8 (by kernel_rfl)
   have m := hcl 8 7 (by kernel_rfl) n
   have l := hcl 7 6 (by kernel_rfl) m
   have L := hcl 6 5 (by kernel_rfl) l
   have g := hSi
   have b := ngF hcl 11 10 g
   have h := ngF hcl 12 10 g
   obtain rfl := H L
   obtain rfl := Q l
   obtain rfl := W m
   obtain rfl := ac n
   obtain rfl := I ag
   obtain rfl := R b
   refine hG (any_step ?_); clear hG G; intro A J hJ
   have d := Fz.le.trans d c
   have hzst := Fz.le.refl f
   have ao := hs4.mono c
   refine ck hFx 103 #[.slice ao2 u0.abs.length cap3, y6 u2] ?_
   refine (gleft_fun u0.abs u2 aG ao2 cap3 _ _ ao hMx.fz).mono ?_; rintro _ a8 ⟨ay, az, aA, rfl, a9, hm⟩; refine ⟨_, rfl, ?_⟩; intro bF ba; have aB := hMx.callZ hm; have ap := hm.ext.le; clear hm hMx hFx
   replace hzst := hzst.mono ap
   replace ao := ao.mono ap
   replace d := Fz.le.trans d ap
   have bb : Mem B [] w0 Z0 ((.row b1 [.bool u0.neg, .slice ao2 u0.abs.length cap3] 117) :: Rr) aA a8 := aB; clear aB
   refine nl (qnI (hJ _ _ ?_)); clear hJ J
   exact ⟨ay, az, p, q, s, z, Y, T, M, C, pt b1 0, pt b1 0, pt b1 1, .slice ao2 u0.abs.length cap3, y6 u2, .slice ay (gleftS u0.abs u2).length az, x, .row b1 [.bool u0.neg, .slice ao2 u0.abs.length cap3] 117, aA, c.trans hzst, ba.reg, bb.perm lpr, (nt h), E, F, P, V, ab, kf, kf, kf, kf, kf, kf, (nt b), kf, (nt b), (fun _ => a9), (nt b)⟩
  ·
   obtain rfl := oj hi
   have g := hpre 10 (by kernel_rfl)
   have v := hpre 4 (by kernel_rfl)
   have ah := hpre 0 (by kernel_rfl)
   have ag := hcl 10 9 (by kernel_rfl) g
   have n := hcl 10 8 (by kernel_rfl) g
   have u := hcl 4 3 (by kernel_rfl) v
   have m := hcl 8 7 (by kernel_rfl) n
   have t := hcl 3 2 (by kernel_rfl) u
   have l := hcl 7 6 (by kernel_rfl) m
   have X := hcl 2 1 (by kernel_rfl) t
   have L := hcl 6 5 (by kernel_rfl) l
   have b := hSi
   have h := ngF hcl 12 11 b
   obtain rfl := E ah
   obtain rfl := F X
   obtain rfl := P t
   obtain rfl := V u
   obtain rfl := ab v
   obtain rfl := H L
   obtain rfl := Q l
   obtain rfl := W m
   obtain rfl := ac n
   obtain rfl := I ag
   obtain rfl := ae g
   obtain rfl := R b
   refine hG (any_step ?_); clear hG G; intro A J hJ
   have d := Fz.le.trans d c
   have hzst := Fz.le.refl f
   have aq := hs4.mono c
   have aj := af g
   refine ck hFx 102 #[pt b1 0, .bool u0.neg, .slice j (gleftS u0.abs u2).length k] ?_
   refine (ggive_fun u0 u0.neg (gleftS u0.abs u2) b1 ao2 cap3 j k _ _ _ _ _ _ aq aj hMx hMx.fz).mono ?_; rintro _ bc ⟨ar, au, aC, rfl, ak, bd, hm⟩; refine ⟨_, rfl, ?_⟩; intro bG be; have aD := hm; clear hm hMx hFx
   replace hzst := hzst.mono ak
   replace aq := aq.mono ak
   replace aj := aj.mono ak
   replace d := Fz.le.trans d ak
   have bf : Mem B [] w0 Z0 ((.row b1 [.bool ((ggive u0 u0.neg (gleftS u0.abs u2)).neg), .slice ar ((ggive u0 u0.neg (gleftS u0.abs u2)).abs).length au] 117) :: Rr) aC bc := aD; clear aD
   refine nl (qnI (hJ _ _ ?_)); clear hJ J
   exact ⟨j, k, ar, au, s, pt b1 0, pt b1 0, pt b1 0, pt b1 0, .bool u0.neg, pt b1 0, pt b1 0, pt b1 1, .slice ao2 u0.abs.length cap3, y6 u2, .slice j (gleftS u0.abs u2).length k, pt b1 0, .row b1 [.bool ((ggive u0 u0.neg (gleftS u0.abs u2)).neg), .slice ar ((ggive u0 u0.neg (gleftS u0.abs u2)).abs).length au] 117, aC, c.trans hzst, be.reg, bf.perm lpr, (nt h), kf, kf, kf, kf, kf, kf, kf, kf, kf, kf, kf, kf, nu, kf, (fun _ => aj), (fun _ => bd)⟩
  obtain rfl := oj hi
  have b := hpre 11 (by kernel_rfl)
  have g := hpre 10 (by kernel_rfl)
  have ag := hpre 9 (by kernel_rfl)
  have n := hpre 8 (by kernel_rfl)
  have m := hpre 7 (by kernel_rfl)
  have l := hpre 6 (by kernel_rfl)
  have L := hpre 5 (by kernel_rfl)
  have v := hpre 4 (by kernel_rfl)
  have u := hpre 3 (by kernel_rfl)
  have t := hpre 2 (by kernel_rfl)
  have X := hpre 1 (by kernel_rfl)
  have ah := hpre 0 (by kernel_rfl)
  have h := hSi
  obtain rfl := E ah
  obtain rfl := F X
  obtain rfl := P t
  obtain rfl := V u
  obtain rfl := ab v
  obtain rfl := H L
  obtain rfl := Q l
  obtain rfl := W m
  obtain rfl := ac n
  obtain rfl := I ag
  obtain rfl := ae g
  obtain rfl := al b
  obtain rfl := am b
  refine hG (any_step ?_); clear hG G; intro A J hJ
  have d := Fz.le.trans d c
  have hzst := Fz.le.refl f
  have bH := hs4.mono c
  have bg := af g
  have bh := an b
  refine s1 hFx 6 (pt b1 0) ?_; intro bI bi; clear hFx
  refine nl (qnI (hJ _ _ ?_)); clear hJ J
  exact ⟨j, k, p, q, pt b1 0, pt b1 0, pt b1 0, pt b1 0, pt b1 0, .bool u0.neg, pt b1 0, pt b1 0, pt b1 1, .slice ao2 u0.abs.length cap3, y6 u2, .slice j (gleftS u0.abs u2).length k, pt b1 0, .row b1 [.bool ((ggive u0 u0.neg (gleftS u0.abs u2)).neg), .slice p ((ggive u0 u0.neg (gleftS u0.abs u2)).abs).length q] 117, f, c, bi.reg, hMx.perm lpr, kf, kf, kf, kf, kf, kf, kf, kf, kf, kf, kf, kf, kf, (tn b), kf, (fun _ => bg), (fun _ => bh)⟩
 case hE =>
  intro S hS bJ bK hI; refine Go.Sy.hid ?_; intro G hG; obtain ⟨j, k, p, q, s, z, Y, T, M, C, ad, aa, U, N, O, D, x, ai, f, c, hFx, hMx, ax, E, F, P, V, ab, H, Q, W, ac, I, ae, al, R, am, af, hI⟩ := hI; have an := hI; clear hI; refine hG ?_; clear hG G
  obtain rfl := ax (hS 12 (by decide))
  obtain rfl := E (hS 0 (by decide))
  obtain rfl := F (hS 1 (by decide))
  obtain rfl := P (hS 2 (by decide))
  obtain rfl := V (hS 3 (by decide))
  obtain rfl := ab (hS 4 (by decide))
  obtain rfl := H (hS 5 (by decide))
  obtain rfl := Q (hS 6 (by decide))
  obtain rfl := W (hS 7 (by decide))
  obtain rfl := ac (hS 8 (by decide))
  obtain rfl := I (hS 9 (by decide))
  obtain rfl := ae (hS 10 (by decide))
  obtain rfl := al (hS 11 (by decide))
  obtain rfl := am (hS 11 (by decide))
  have d := Fz.le.trans d c
  have bL := hs4.mono c
  have bM := af (hS 10 (by decide))
  have bj := an (hS 11 (by decide))
  refine thn ?_
  refine wp_ret ?_
  refine ra1 hFx (pt b1 0) ?_
  exact ⟨(ggive u0 u0.neg (gleftS u0.abs u2)), p, q, f, rfl, aH, d, bj, hMx.keep (List.Sublist.cons_cons _ (List.Sublist.refl _))⟩

theorem gblen_walk (u0 : BInt) (b1 : Nat) (ao2 : Option Addr) (cap3 : Nat) (B : Nat) (w0 : World) (Z0 : Fz) (Rr : List Res) (Z : Fz) (w : World) (hs4 : SlR (tyInt .u32) Z ao2 cap3 u0.abs) (hM0 : Mem B [] w0 Z0 ((.row b1 [.bool u0.neg, .slice ao2 u0.abs.length cap3] 117) :: Rr) Z w) (hZ : Z.on w) {K : (Int × BInt) → Prop} (hp : gblen_vc u0 K) : Calls Tryz.prog 84 #[pt b1 0] w fun e w' => ∃ (r : Int × BInt) (ao1001 : Option Addr) (cap1002 : Nat) (Z' : Fz), e = .returned (i6 r.1) ∧ K r ∧ Fz.le Z Z' ∧ SlR (tyInt .u32) Z' ao1001 cap1002 r.2.abs ∧ Mem B [] w0 Z0 ((.row b1 [.bool r.2.neg, .slice ao1001 r.2.abs.length cap1002] 117) :: Rr) Z' w' := by
 refine enter0 Tryz.func84 rfl rfl (by kernel_rfl) ?_; intro n a; have g := Fz.le.refl Z
 have h := hp (hs4.small); clear hp
 refine sqB a hM0 [] [] [] ?_; intro o b; clear a
 refine sqH ?_; intro i c
 refine bt b hM0 4 [0] [] [(6, .slice ao2 u0.abs.length cap3)] ?_; intro p d; clear b
 obtain ⟨j, k⟩ := h
 refine fc d hM0 (glength_fun u0.abs j ao2 cap3 _ _ hs4 hM0.fz) ?_; intro q s f l; clear d hM0
 refine s1 f 2 (i6 (glengthS u0.abs)) ?_; intro t m; clear f
 refine nlH (c _ _ ?_); clear c i
 refine wp_ret ?_
 refine ra1 m (i6 (glengthS u0.abs)) ?_
 exact ⟨((glengthS u0.abs), u0), ao2, cap3, Z, rfl, k, g, hs4, l.keep (List.Sublist.cons_cons _ (List.Sublist.refl _))⟩

theorem gint64_walk (u0 : BInt) (b1 : Nat) (ao2 : Option Addr) (cap3 : Nat) (B : Nat) (w0 : World) (Z0 : Fz) (Rr : List Res) (Z : Fz) (w : World) (hs4 : SlR (tyInt .u32) Z ao2 cap3 u0.abs) (hM0 : Mem B [] w0 Z0 ((.row b1 [.bool u0.neg, .slice ao2 u0.abs.length cap3] 117) :: Rr) Z w) (hZ : Z.on w) {K : (Int × BInt) → Prop} (hp : gint64_vc u0 K) : Calls Tryz.prog 85 #[pt b1 0] w fun e w' => ∃ (r : Int × BInt) (ao1001 : Option Addr) (cap1002 : Nat) (Z' : Fz), e = .returned (i6 r.1) ∧ K r ∧ Fz.le Z Z' ∧ SlR (tyInt .u32) Z' ao1001 cap1002 r.2.abs ∧ Mem B [] w0 Z0 ((.row b1 [.bool r.2.neg, .slice ao1001 r.2.abs.length cap1002] 117) :: Rr) Z' w' := by
 refine enter0 Tryz.func85 rfl rfl (by kernel_rfl) ?_; intro G g; have c := Fz.le.refl Z
 have v := hp (hs4.small); clear hp
 refine sqB g hM0 [] [] [] ?_; intro H h; clear g
 refine sqH ?_; intro x i
 refine s1 h 4 (pt b1 0) ?_; intro I j; clear h
 obtain ⟨y, k⟩ := v
 refine ck j 109 #[pt b1 0] ?_
 obtain ⟨a, z, l⟩ := hxq k; clear k
 have d := guint64_fun u0 y b1 ao2 cap3 _ _ _ _ _ _ hs4 hM0 hM0.fz; rw [z] at d; refine d.mono ?_; clear d; rintro _ A ⟨m, n, o, rfl, p, q, hm⟩; refine ⟨_, rfl, ?_⟩; intro J s; have t := hm; clear hm hM0 j
 replace hs4 := hs4.mono p
 replace c := Fz.le.trans c p
 have b : Mem B [] w0 Z0 ((.row b1 [.bool a.2.neg, .slice m a.2.abs.length n] 117) :: Rr) o A := t; clear t
 have C := l (q.small); clear l
 refine bt s b 2 [] [] [(3, i6 (w64 a.1))] ?_; intro L u; clear s
 refine nlH (i _ _ ?_); clear i x
 refine wp_seq ?_
 refine sqB u b [0] [] [(10, .bool a.2.neg)] ?_; intro M f; clear u
 obtain ⟨D, E⟩ := C
 refine cn f D ?_
 refine wp_skip ?_
 refine thn ?_
 refine sqB f b [] [] [(2, i6 (w64 a.1))] ?_; intro N F; clear f
 refine wp_ret ?_
 refine ra1 F (i6 (w64 a.1)) ?_
 exact ⟨(w64 a.1, a.2), m, n, o, rfl, E, c, q, b.keep (List.Sublist.cons_cons _ (List.Sublist.refl _))⟩

theorem gsetstr_walk (u0 : BInt) (u1 : List UInt8) (b1 : Nat) (ao2 : Option Addr) (cap3 : Nat) (B : Nat) (w0 : World) (Z0 : Fz) (Rr : List Res) (Z : Fz) (w : World) (hs4 : SlR (tyInt .u32) Z ao2 cap3 u0.abs) (hM0 : Mem B [] w0 Z0 ((.row b1 [.bool u0.neg, .slice ao2 u0.abs.length cap3] 117) :: Rr) Z w) (hZ : Z.on w) {K : (Bool × Bool × BInt) → Prop} (hp : gsetstr_vc u0 u1 K) : Calls Tryz.prog 101 #[pt b1 0, str u1, i6 2] w fun e w' => ∃ (r : Bool × Bool × BInt) (ao1001 : Option Addr) (cap1002 : Nat) (Z' : Fz), e = .returned (.tuple #[.pointer (if r.1 = true then some ⟨b1, 0, none⟩ else none), .bool r.2.1]) ∧ K r ∧ Fz.le Z Z' ∧ SlR (tyInt .u32) Z' ao1001 cap1002 r.2.2.abs ∧ Mem B [] w0 Z0 ((.row b1 [.bool r.2.2.neg, .slice ao1001 r.2.2.abs.length cap1002] 117) :: Rr) Z' w' := by
 refine enter0 Tryz.func101 rfl rfl (by kernel_rfl) ?_; intro a0 Y; have a := Fz.le.refl Z
 have bf := hp (hs4.small); clear hp
 refine sqB Y hM0 [] [] [] ?_; intro a9 aa; clear Y
 refine sqB aa hM0 [] [] [(8, .bool false)] ?_; intro ca ab; clear aa
 refine wp_seq ?_
 refine sqH ?_; intro bg ac
 refine bt ab hM0 4 [] [] [(16, .bool (decide ((u1.length : Int) > 0)))] ?_; intro cb ad; clear ab
 obtain ⟨bh, bi⟩ := bf
 have C := ad.reval (d := 16) (c := []) (v := .bool (decide ((u1.length : Int) > 0))) (by kernel_rfl) (.bool true) (by rw [bh]); clear ad
 refine st C (str u1) (by rw [wanted_of C (b := true) rfl rfl (by kernel_rfl) (by kernel_rfl)]; rfl) rfl (by kernel_rfl) (p0 C (by kernel_rfl)) ?_; intro cc D; clear C
 obtain ⟨bj, bk⟩ := bi
 obtain ⟨E, ae⟩ : ∃ q, u1[(0 : Int).toNat]? = some q := ⟨_, List.getElem?_eq_getElem (by omega)⟩; have bl := bk E ae
 refine st D (y8 (E.toNat : Int)) (by rw [wanted_of D (b := true) rfl rfl (by kernel_rfl) (by kernel_rfl)]; rfl) rfl (by kernel_rfl) (stridx_run D (k := .i64) rfl (by kernel_rfl) (by kernel_rfl) (by kernel_rfl) bj.1 ae) ?_; intro ce af; clear D
 refine bt af hM0 2 [] [19, 20] [(20, .bool ((E.toNat : Int) == 45))] ?_; intro cf ag; clear af
 obtain ⟨bm, bn⟩ := bl
 have F := ag.reval (d := 20) (c := []) (v := .bool ((E.toNat : Int) == 45)) (by kernel_rfl) (.bool false) (by rw [bm]); clear ag
 refine st F (str u1) (by rw [wanted_of F (b := false) rfl rfl (by kernel_rfl) (by kernel_rfl)]; rfl) rfl (by kernel_rfl) (p0 F (by kernel_rfl)) ?_; intro cg G; clear F
 obtain ⟨bo, bp⟩ := bn
 obtain ⟨N, ah⟩ : ∃ q, u1[(0 : Int).toNat]? = some q := ⟨_, List.getElem?_eq_getElem (by omega)⟩; have bq := bp N ah
 refine st G (y8 (N.toNat : Int)) (by rw [wanted_of G (b := false) rfl rfl (by kernel_rfl) (by kernel_rfl)]; rfl) rfl (by kernel_rfl) (stridx_run G (k := .i64) rfl (by kernel_rfl) (by kernel_rfl) (by kernel_rfl) bo.1 ah) ?_; intro ch ai; clear G
 refine bt ai hM0 3 [] [23, 24, 25] [(25, .bool ((N.toNat : Int) == 43))] ?_; intro ci O; clear ai
 refine nlH (ac _ _ ?_); clear ac bg
 obtain ⟨br, bs⟩ := bq
 refine cn O br ?_
 refine wp_skip ?_
 refine thn ?_
 refine wp_seq ?_
 refine sqB O hM0 [] [] [(32, .bool false)] ?_; intro cj P; clear O
 refine cdF P (by kernel_rfl) ?_
 refine wp_skip ?_
 refine thn ?_
 refine wp_seq ?_
 refine sqB P hM0 [] [] [(66, .bool ((((u1.length : Int) == 0) || false) || false))] ?_; intro cl Q; clear P
 obtain ⟨bu, bv⟩ := bs
 refine cn Q bu ?_
 refine wp_skip ?_
 refine thn ?_
 refine sqB Q hM0 [] [] [(9, .slice none 0 0)] ?_; intro cm aj; clear Q
 refine wp_seq ?_
 refine sqB aj hM0 [] [] [(10, i6 0)] ?_; intro ak al; clear aj
 refine wp_block ?_
 have am : Fr 124 [] [⟨0, [], pt b1 0⟩, ⟨1, [], str u1⟩, ⟨2, [], i6 2⟩, ⟨8, [], .bool false⟩, ⟨9, [], .slice none 0 0⟩, ⟨10, [], i6 0⟩] ak := al.reg; clear al
 have an : Fr 124 [] [⟨0, [], pt b1 0⟩, ⟨1, [], str u1⟩, ⟨2, [], i6 2⟩, ⟨8, [], .bool false⟩, ⟨9, [], .slice none 0 0⟩, ⟨10, [], i6 0⟩] ak := am.reg; clear am
 obtain ⟨bw, bx, bz, bA⟩ := bv
 have co := a
 refine lp (ι := (List Int) × Int × (Option Addr) × Nat × Fz) (fun (s : (List Int) × Int × (Option Addr) × Nat × Fz) => [⟨0, [], pt b1 0⟩, ⟨1, [], str u1⟩, ⟨2, [], i6 2⟩, ⟨8, [], .bool false⟩, ⟨9, [], .slice s.2.2.1 s.1.length s.2.2.2.1⟩, ⟨10, [], i6 s.2.1⟩]) (fun (s : (List Int) × Int × (Option Addr) × Nat × Fz) => ((.row b1 [.bool u0.neg, .slice ao2 u0.abs.length cap3] 117) :: Rr)) (fun (s : (List Int) × Int × (Option Addr) × Nat × Fz) => s.2.2.2.2) (fun (s : (List Int) × Int × (Option Addr) × Nat × Fz) => bw s.1 s.2.1 ∧ SlR (tyInt .u32) s.2.2.2.2 s.2.2.1 s.2.2.2.1 s.1 ∧ Fz.le Z s.2.2.2.2) (fun (s : (List Int) × Int × (Option Addr) × Nat × Fz) => bx s.1 s.2.1) ⟨([] : List Int), 0, none, 0, Z⟩ ⟨bz, (SlR.nil _ _), Fz.le.refl _⟩ (by exact an.reg) (by exact hM0) ?_
 rintro ⟨i, m, o, p, bB⟩ ⟨bC, j, g⟩ bD bE ao ap
 have aq : Fr 124 [] [⟨0, [], pt b1 0⟩, ⟨1, [], str u1⟩, ⟨2, [], i6 2⟩, ⟨8, [], .bool false⟩, ⟨9, [], .slice o i.length p⟩, ⟨10, [], i6 m⟩] bD := ao; clear ao an
 have f : Mem B [] w0 Z0 ((.row b1 [.bool u0.neg, .slice ao2 u0.abs.length cap3] 117) :: Rr) bB bE := ap; clear ap hM0
 have H := bA i m bC
 replace a := Fz.le.trans a g
 have l := hs4.mono g
 refine wp_seq ?_
 refine sqB aq f [] [] [(70, .bool (decide (m < (u1.length : Int))))] ?_; intro cp z; clear aq
 refine cd z (t := decide (m < (u1.length : Int))) (by kernel_rfl) (fun R => ?_) (fun R => ?_)
 ·
  have bF := H.1 R; clear H
  refine wp_skip ?_
  refine thn ?_
  refine wp_seq ?_
  refine wp_block ?_
  refine sqB z f [] [] [(11, i6 99)] ?_; intro cq ar; clear z
  refine wp_seq ?_
  refine sqH ?_; intro bG au
  refine bt ar f 2 [] [] [(73, str u1), (74, i6 m)] ?_; intro cr av; clear ar
  obtain ⟨bH, bI⟩ := bF
  obtain ⟨h, aw⟩ : ∃ q, u1[m.toNat]? = some q := ⟨_, List.getElem?_eq_getElem (by omega)⟩; have bJ := bI h aw
  refine si av .i64 bH.1 aw ?_; intro cs ax; clear av
  refine s1 ax 12 (y8 (h.toNat : Int)) ?_; intro ct ay; clear ax
  refine nlH (au _ _ ?_); clear au bG
  refine wp_block ?_
  refine sqB ay f [] [] [(76, .bool ((decide ((h.toNat : Int) ≥ 48)) && (decide ((h.toNat : Int) ≤ 57))))] ?_; intro cu S; clear ay
  obtain ⟨bK, bL⟩ := bJ
  refine cy S bK ?_
  refine rgB S f [] [] [(11, i6 (w64 (w8 ((h.toNat : Int) - 48))))] ?_; intro cv az; clear S
  refine ibn ?_
  refine thn ?_
  refine wp_seq ?_
  refine sqB az f [] [] [(110, .bool (decide ((w64 (w8 ((h.toNat : Int) - 48))) ≥ 2)))] ?_; intro cw T; clear az
  obtain ⟨bM, bN⟩ := bL
  refine cn T bM ?_
  refine wp_skip ?_
  refine thn ?_
  refine rgH ?_; intro bO aA
  refine bt T f 3 [] [] [(111, .slice o i.length p), (113, y6 2)] ?_; intro cx aB; clear T
  obtain ⟨bP, aC⟩ := bN
  refine ck aB 125 #[y6 2] ?_
  refine (gwords_fun 2 bP _ _ f.fz).mono ?_; rintro _ bQ ⟨aD, aE, bR, rfl, n, hm⟩; refine ⟨_, rfl, ?_⟩; intro cz aF; have aG := f.callZ hm; have I := hm.ext.le; clear hm f aB
  replace l := l.mono I
  replace j := j.mono I
  replace g := g.mono I
  replace a := Fz.le.trans a I
  have U : Mem B [] w0 Z0 ((.row b1 [.bool u0.neg, .slice ao2 u0.abs.length cap3] 117) :: Rr) bR bQ := aG; clear aG
  have bS := aC (n.small); clear aC
  obtain ⟨bT, aH⟩ := bS
  refine ck aF 124 #[.slice o i.length p, .slice aD (gwordsS 2).length aE] ?_
  refine (gmul_fun i (gwordsS 2) bT o p aD aE _ _ j n U.fz).mono ?_; rintro _ bU ⟨aI, aJ, bV, rfl, x, hm⟩; refine ⟨_, rfl, ?_⟩; intro cA aK; have aL := U.callZ hm; have A := hm.ext.le; clear hm U aF
  replace l := l.mono A
  replace j := j.mono A
  replace g := g.mono A
  replace n := n.mono A
  replace a := Fz.le.trans a A
  have J : Mem B [] w0 Z0 ((.row b1 [.bool u0.neg, .slice ao2 u0.abs.length cap3] 117) :: Rr) bV bU := aL; clear aL
  have bW := aH (x.small); clear aH
  refine bt aK J 2 [] [] [(117, y6 (wu64 (w64 (w8 ((h.toNat : Int) - 48)))))] ?_; intro cB aM; clear aK
  obtain ⟨bX, aN⟩ := bW
  refine ck aM 125 #[y6 (wu64 (w64 (w8 ((h.toNat : Int) - 48))))] ?_
  refine (gwords_fun (wu64 (w64 (w8 ((h.toNat : Int) - 48)))) bX _ _ J.fz).mono ?_; rintro _ bY ⟨aO, aP, bZ, rfl, L, hm⟩; refine ⟨_, rfl, ?_⟩; intro cC aQ; have aR := J.callZ hm; have y := hm.ext.le; clear hm J aM
  replace l := l.mono y
  replace j := j.mono y
  replace g := g.mono y
  replace n := n.mono y
  replace x := x.mono y
  replace a := Fz.le.trans a y
  have V : Mem B [] w0 Z0 ((.row b1 [.bool u0.neg, .slice ao2 u0.abs.length cap3] 117) :: Rr) bZ bY := aR; clear aR
  have b0 := aN (L.small); clear aN
  obtain ⟨b2, aS⟩ := b0
  refine ck aQ 123 #[.slice aI (gmulS i (gwordsS 2)).length aJ, .slice aO (gwordsS (wu64 (w64 (w8 ((h.toNat : Int) - 48))))).length aP] ?_
  refine (gadd_fun (gmulS i (gwordsS 2)) (gwordsS (wu64 (w64 (w8 ((h.toNat : Int) - 48))))) b2 aI aJ aO aP _ _ x L V.fz).mono ?_; rintro _ b3 ⟨aT, aU, aV, rfl, aW, hm⟩; refine ⟨_, rfl, ?_⟩; intro cD aX; have aY := V.callZ hm; have u := hm.ext.le; clear hm V aQ
  replace l := l.mono u
  replace j := j.mono u
  replace g := g.mono u
  replace n := n.mono u
  replace x := x.mono u
  replace L := L.mono u
  replace a := Fz.le.trans a u
  have aZ : Mem B [] w0 Z0 ((.row b1 [.bool u0.neg, .slice ao2 u0.abs.length cap3] 117) :: Rr) aV b3 := aY; clear aY
  have a1 := aS (aW.small); clear aS
  refine s1 aX 9 (.slice aT (gaddS (gmulS i (gwordsS 2)) (gwordsS (wu64 (w64 (w8 ((h.toNat : Int) - 48)))))).length aU) ?_; intro cE a2; clear aX
  refine nlH (aA _ _ ?_); clear aA bO
  refine ibn ?_
  refine thn ?_
  refine rgB a2 aZ [] [] [(10, i6 (w64 (m + 1)))] ?_; intro cF b4; clear a2
  refine rd ?_
  exact ⟨⟨(gaddS (gmulS i (gwordsS 2)) (gwordsS (wu64 (w64 (w8 ((h.toNat : Int) - 48)))))), w64 (m + 1), aT, aU, aV⟩, ⟨a1.1, aW, g⟩, a1.2, (b4.reg).anyβ _ (by kernel_rfl), aZ.keep (List.Sublist.cons_cons _ (List.Sublist.refl _))⟩
 have a3 := H.2 R; clear H
 refine wp_exit ?_
 refine thx ?_
 refine thx ?_
 refine ibx ?_
 refine thn ?_
 refine sqH ?_; intro b5 a4
 refine bt z f 3 [] [] [(120, pt b1 0), (121, .bool false), (122, .slice o i.length p)] ?_; intro cG a5; clear z
 refine ck a5 102 #[pt b1 0, .bool false, .slice o i.length p] ?_
 obtain ⟨W, b6, a6⟩ := hxq a3; clear a3
 have X := ggive_fun u0 false i b1 ao2 cap3 o p _ _ _ _ _ _ l j f f.fz; rw [b6] at X; refine X.mono ?_; clear X; rintro _ b7 ⟨a7, a8, ba, rfl, M, bb, hm⟩; refine ⟨_, rfl, ?_⟩; intro cH bc; have bd := hm; clear hm f a5
 replace l := l.mono M
 replace j := j.mono M
 replace g := g.mono M
 replace a := Fz.le.trans a M
 have be : Mem B [] w0 Z0 ((.row b1 [.bool W.neg, .slice a7 W.abs.length a8] 117) :: Rr) ba b7 := bd; clear bd
 have b8 := a6 (bb.small); clear a6
 refine bt bc be 2 [] [] [(6, pt b1 0), (7, .bool true)] ?_; intro cI b9; clear bc
 refine nlH (a4 _ _ ?_); clear a4 b5
 refine wp_ret ?_
 refine ra2 b9 (.tuple #[pt b1 0, .bool true]) ?_
 exact ⟨(true, true, W), a7, a8, ba, rfl, b8, a, bb, be.keep (List.Sublist.cons_cons _ (List.Sublist.refl _))⟩

theorem gset_walk (u0 : BInt) (b1 : Nat) (ao2 : Option Addr) (cap3 : Nat) (B : Nat) (w0 : World) (Z0 : Fz) (Rr : List Res) (Z : Fz) (w : World) (hs4 : SlR (tyInt .u32) Z ao2 cap3 u0.abs) (hM0 : Mem B [] w0 Z0 ((.row b1 [.bool u0.neg, .slice ao2 u0.abs.length cap3] 117) :: Rr) Z w) (hZ : Z.on w) {K : BInt → Prop} (hp : gset_vc u0 K) : Calls Tryz.prog 107 #[pt b1 0, pt b1 0] w fun e w' => ∃ (r : BInt) (ao1001 : Option Addr) (cap1002 : Nat) (Z' : Fz), e = .returned (pt b1 0) ∧ K r ∧ Fz.le Z Z' ∧ SlR (tyInt .u32) Z' ao1001 cap1002 r.abs ∧ Mem B [] w0 Z0 ((.row b1 [.bool r.neg, .slice ao1001 r.abs.length cap1002] 117) :: Rr) Z' w' := by
 refine enter0 Tryz.func107 rfl rfl (by kernel_rfl) ?_; intro a0 aC; have d := Fz.le.refl Z
 have aL := hp (hs4.small); clear hp
 refine sqB aC hM0 [] [] [] ?_; intro C aD; clear aC
 have aM : Fr 16 [] [⟨0, [], pt b1 0⟩, ⟨1, [], pt b1 0⟩] C := aD.reg; clear aD
 obtain ⟨aN, aO⟩ := aL
 refine wp_seq (any_invE mixed [[], [], [1], [2], [3], [], [5], [6], [7], [8], [0, 4, 9], [0, 1, 2, 3, 4, 5, 6, 7, 8, 9, 10]] 12 (fun S a w1 => ∃ (k : Option Addr) (l : Nat) (q : Option Addr) (s : Nat) (x : Value) (D : Value) (aa : Value) (T : Value) (M : Value) (E : Value) (ae : Value) (ab : Value) (U : Value) (N : Value) (F : Value) (y : Value) (ai : Res) (V : Res) (g : Fz), Fz.le Z g ∧ Fr 16 [] [⟨0, [], pt b1 0⟩, ⟨1, [], pt b1 0⟩, ⟨4, [], x⟩, ⟨5, [], D⟩, ⟨6, [], aa⟩, ⟨7, [], T⟩, ⟨8, [], M⟩, ⟨9, [], E⟩, ⟨10, [], ae⟩, ⟨11, [], ab⟩, ⟨12, [], U⟩, ⟨13, [], N⟩, ⟨14, [], F⟩, ⟨15, [], y⟩] a ∧ Mem B [] w0 Z0 (ai :: V :: Rr) g w1 ∧ (S 11 = true → x = pt b1 0) ∧ (S 0 = true → D = pt b1 0) ∧ (S 1 = true → aa = pt b1 0) ∧ (S 2 = true → T = pt b1 0) ∧ (S 3 = true → M = pt b1 0) ∧ (S 4 = true → E = .bool u0.neg) ∧ (S 5 = true → ae = pt b1 0) ∧ (S 6 = true → ab = pt b1 0) ∧ (S 7 = true → U = pt b1 1) ∧ (S 8 = true → N = .slice ao2 u0.abs.length cap3) ∧ (S 9 = true → F = .slice k (gtwinS u0.abs).length l) ∧ (S 10 = true → y = pt b1 0) ∧ (S 10 = false → ai = .row b1 [.bool u0.neg, .slice ao2 u0.abs.length cap3] 117) ∧ (S 10 = true → ai = .nil) ∧ (S 9 = false → V = .nil) ∧ (S 9 = true → S 10 = false → V = .own (tyInt .u32) 143 k l (gtwinS u0.abs)) ∧ (S 10 = true → V = .row b1 [.bool ((ggive u0 u0.neg (gtwinS u0.abs)).neg), .slice q ((ggive u0 u0.neg (gtwinS u0.abs)).abs).length s] 117) ∧ (S 10 = true → SlR (tyInt .u32) g k l (gtwinS u0.abs)) ∧ (S 10 = true → SlR (tyInt .u32) g q s ((ggive u0 u0.neg (gtwinS u0.abs)).abs))) ?h0 ?hs ?hE)
 case h0 =>
  have aP := aM.any 4
  have aQ := aP.any 5
  have aR := aQ.any 6
  have aS := aR.any 7
  have aT := aS.any 8
  have aU := aT.any 9
  have aV := aU.any 10
  have aW := aV.any 11
  have aX := aW.any 12
  have aY := aX.any 13
  have aZ := aY.any 14
  have a1 := aZ.any 15
  have a2 := hM0.nilRes
  have a3 := (a2.perm ((pk 1 rfl).trans (lpr.cons _))).drew
  exact ⟨none, 0, none, 0, C.tmps.getD 4 undef, C.tmps.getD 5 undef, C.tmps.getD 6 undef, C.tmps.getD 7 undef, C.tmps.getD 8 undef, C.tmps.getD 9 undef, C.tmps.getD 10 undef, C.tmps.getD 11 undef, C.tmps.getD 12 undef, C.tmps.getD 13 undef, C.tmps.getD 14 undef, C.tmps.getD 15 undef, .row b1 [.bool u0.neg, .slice ao2 u0.abs.length cap3] 117, .nil, Z, Fz.le.refl _, a1.reg, a3, ff, ff, ff, ff, ff, ff, ff, ff, ff, ff, ff, ff, kf, ff, kf, ff, ff, ff, ff⟩
 case hs =>
  intro S hcl i o hil hi hSi hpre a w1 hI; refine Go.Sy.hid ?_; intro G hG; obtain ⟨k, l, q, s, x, D, aa, T, M, E, ae, ab, U, N, F, y, ai, V, g, c, hFx, hMx, aE, H, I, O, W, ac, L, P, X, ad, af, ao, Q, ap, Y, ag, aq, ar, hI⟩ := hI; have au := hI; clear hI
  have hcase : i = 0 ∨ i = 1 ∨ i = 2 ∨ i = 3 ∨ i = 4 ∨ i = 5 ∨ i = 6 ∨ i = 7 ∨ i = 8 ∨ i = 9 ∨ i = 10 ∨ i = 11 := by clear hi; omega
  rcases hcase with rfl | rfl | rfl | rfl | rfl | rfl | rfl | rfl | rfl | rfl | rfl | rfl
  ·
   obtain rfl := oj hi
   have ah := hSi
   have b := ngF hcl 10 0 ah
   have j := ngF hcl 11 0 ah
   obtain rfl := Q b
   refine hG (any_step ?_); clear hG G; intro A J hJ
   have d := Fz.le.trans d c
   have hzst := Fz.le.refl g
   have bB := hs4.mono c
   refine s1 hFx 5 (pt b1 0) ?_; intro bC a4; clear hFx
   refine nl (qnI (hJ _ _ ?_)); clear hJ J
   exact ⟨k, l, q, s, x, pt b1 0, aa, T, M, E, ae, ab, U, N, F, y, .row b1 [.bool u0.neg, .slice ao2 u0.abs.length cap3] 117, V, g, c, a4.reg, hMx.perm lpr, (nt j), kf, I, O, W, ac, L, P, X, ad, af, (nt b), kf, (nt b), Y, ag, (nt b), (nt b), (nt b)⟩
  ·
   obtain rfl := oj hi
   have R := hSi
   have t := ngF hcl 2 1 R
   have u := ngF hcl 3 2 t
   have v := ngF hcl 4 3 u
   have b := ngF hcl 10 4 v
   have j := ngF hcl 11 1 R
   obtain rfl := Q b
   refine hG (any_step ?_); clear hG G; intro A J hJ
   have d := Fz.le.trans d c
   have hzst := Fz.le.refl g
   have bD := hs4.mono c
   refine s1 hFx 6 (pt b1 0) ?_; intro bE a5; clear hFx
   refine nl (qnI (hJ _ _ ?_)); clear hJ J
   exact ⟨k, l, q, s, x, D, pt b1 0, T, M, E, ae, ab, U, N, F, y, .row b1 [.bool u0.neg, .slice ao2 u0.abs.length cap3] 117, V, g, c, a5.reg, hMx.perm lpr, (nt j), H, kf, (nt t), (nt u), (nt v), L, P, X, ad, af, (nt b), kf, (nt b), Y, ag, (nt b), (nt b), (nt b)⟩
  ·
   obtain rfl := oj hi
   have R := hpre 1 (by kernel_rfl)
   have t := hSi
   have u := ngF hcl 3 2 t
   have v := ngF hcl 4 3 u
   have b := ngF hcl 10 4 v
   have j := ngF hcl 11 2 t
   obtain rfl := I R
   obtain rfl := Q b
   refine hG (any_step ?_); clear hG G; intro A J hJ
   have d := Fz.le.trans d c
   have hzst := Fz.le.refl g
   have bF := hs4.mono c
   refine s1 hFx 7 (pt b1 0) ?_; intro bG a6; clear hFx
   refine nl (qnI (hJ _ _ ?_)); clear hJ J
   exact ⟨k, l, q, s, x, D, pt b1 0, pt b1 0, M, E, ae, ab, U, N, F, y, .row b1 [.bool u0.neg, .slice ao2 u0.abs.length cap3] 117, V, g, c, a6.reg, hMx.perm lpr, (nt j), H, kf, kf, (nt u), (nt v), L, P, X, ad, af, (nt b), kf, (nt b), Y, ag, (nt b), (nt b), (nt b)⟩
  ·
   obtain rfl := oj hi
   have t := hpre 2 (by kernel_rfl)
   have R := hcl 2 1 (by kernel_rfl) t
   have u := hSi
   have v := ngF hcl 4 3 u
   have b := ngF hcl 10 4 v
   have j := ngF hcl 11 3 u
   obtain rfl := I R
   obtain rfl := O t
   obtain rfl := Q b
   refine hG (any_step ?_); clear hG G; intro A J hJ
   have d := Fz.le.trans d c
   have hzst := Fz.le.refl g
   have bH := hs4.mono c
   refine s1 hFx 8 (pt b1 0) ?_; intro bI a8; clear hFx
   refine nl (qnI (hJ _ _ ?_)); clear hJ J
   exact ⟨k, l, q, s, x, D, pt b1 0, pt b1 0, pt b1 0, E, ae, ab, U, N, F, y, .row b1 [.bool u0.neg, .slice ao2 u0.abs.length cap3] 117, V, g, c, a8.reg, hMx.perm lpr, (nt j), H, kf, kf, kf, (nt v), L, P, X, ad, af, (nt b), kf, (nt b), Y, ag, (nt b), (nt b), (nt b)⟩
  ·
   obtain rfl := oj hi
   have u := hpre 3 (by kernel_rfl)
   have t := hcl 3 2 (by kernel_rfl) u
   have R := hcl 2 1 (by kernel_rfl) t
   have v := hSi
   have b := ngF hcl 10 4 v
   have j := ngF hcl 11 4 v
   obtain rfl := I R
   obtain rfl := O t
   obtain rfl := W u
   obtain rfl := Q b
   refine hG (any_step ?_); clear hG G; intro A J hJ
   have d := Fz.le.trans d c
   have hzst := Fz.le.refl g
   have bJ := hs4.mono c
   refine l1 hFx hMx 9 0 0 (.bool u0.neg) rfl rfl ?_; intro bK a9; clear hFx
   refine nl (qnI (hJ _ _ ?_)); clear hJ J
   exact ⟨k, l, q, s, x, D, pt b1 0, pt b1 0, pt b1 0, .bool u0.neg, ae, ab, U, N, F, y, .row b1 [.bool u0.neg, .slice ao2 u0.abs.length cap3] 117, V, g, c, a9.reg, hMx.perm lpr, (nt j), H, kf, kf, kf, kf, L, P, X, ad, af, (nt b), kf, (nt b), Y, ag, (nt b), (nt b), (nt b)⟩
  ·
   obtain rfl := oj hi
   have z := hSi
   have m := ngF hcl 6 5 z
   have n := ngF hcl 7 6 m
   have p := ngF hcl 8 7 n
   have f := ngF hcl 9 8 p
   have b := ngF hcl 10 9 f
   have j := ngF hcl 11 5 z
   obtain rfl := Q b
   obtain rfl := Y f
   refine hG (any_step ?_); clear hG G; intro A J hJ
   have d := Fz.le.trans d c
   have hzst := Fz.le.refl g
   have bL := hs4.mono c
   have ba := hMx.keep (List.Sublist.cons_cons _ (List.Sublist.cons _ (List.Sublist.refl _))); clear hMx
   refine s1 hFx 10 (pt b1 0) ?_; intro bM bb; clear hFx
   refine nl (qnI (hJ _ _ ?_)); clear hJ J
   have bc := ba.nilRes
   exact ⟨k, l, q, s, x, D, aa, T, M, E, pt b1 0, ab, U, N, F, y, .row b1 [.bool u0.neg, .slice ao2 u0.abs.length cap3] 117, .nil, g, c, bb.reg, bc.perm ((pk 1 rfl).trans (lpr.cons _)), (nt j), H, I, O, W, ac, kf, (nt m), (nt n), (nt p), (nt f), (nt b), kf, (nt b), kf, (fun h _ => nt f h), (nt b), (nt b), (nt b)⟩
  ·
   obtain rfl := oj hi
   have z := hpre 5 (by kernel_rfl)
   have m := hSi
   have n := ngF hcl 7 6 m
   have p := ngF hcl 8 7 n
   have f := ngF hcl 9 8 p
   have b := ngF hcl 10 9 f
   have j := ngF hcl 11 6 m
   obtain rfl := L z
   obtain rfl := Q b
   obtain rfl := Y f
   refine hG (any_step ?_); clear hG G; intro A J hJ
   have d := Fz.le.trans d c
   have hzst := Fz.le.refl g
   have bN := hs4.mono c
   have bd := hMx.keep (List.Sublist.cons_cons _ (List.Sublist.cons _ (List.Sublist.refl _))); clear hMx
   refine s1 hFx 11 (pt b1 0) ?_; intro bO be; clear hFx
   refine nl (qnI (hJ _ _ ?_)); clear hJ J
   have bf := bd.nilRes
   exact ⟨k, l, q, s, x, D, aa, T, M, E, pt b1 0, pt b1 0, U, N, F, y, .row b1 [.bool u0.neg, .slice ao2 u0.abs.length cap3] 117, .nil, g, c, be.reg, bf.perm ((pk 1 rfl).trans (lpr.cons _)), (nt j), H, I, O, W, ac, kf, kf, (nt n), (nt p), (nt f), (nt b), kf, (nt b), kf, (fun h _ => nt f h), (nt b), (nt b), (nt b)⟩
  ·
   obtain rfl := oj hi
   have m := hpre 6 (by kernel_rfl)
   have z := hcl 6 5 (by kernel_rfl) m
   have n := hSi
   have p := ngF hcl 8 7 n
   have f := ngF hcl 9 8 p
   have b := ngF hcl 10 9 f
   have j := ngF hcl 11 7 n
   obtain rfl := L z
   obtain rfl := P m
   obtain rfl := Q b
   obtain rfl := Y f
   refine hG (any_step ?_); clear hG G; intro A J hJ
   have d := Fz.le.trans d c
   have hzst := Fz.le.refl g
   have bP := hs4.mono c
   have bg := hMx.keep (List.Sublist.cons_cons _ (List.Sublist.cons _ (List.Sublist.refl _))); clear hMx
   refine s1 hFx 12 (pt b1 1) ?_; intro bQ bh; clear hFx
   refine nl (qnI (hJ _ _ ?_)); clear hJ J
   have bi := bg.nilRes
   exact ⟨k, l, q, s, x, D, aa, T, M, E, pt b1 0, pt b1 0, pt b1 1, N, F, y, .row b1 [.bool u0.neg, .slice ao2 u0.abs.length cap3] 117, .nil, g, c, bh.reg, bi.perm ((pk 1 rfl).trans (lpr.cons _)), (nt j), H, I, O, W, ac, kf, kf, kf, (nt p), (nt f), (nt b), kf, (nt b), kf, (fun h _ => nt f h), (nt b), (nt b), (nt b)⟩
  ·
   obtain rfl := oj hi
   have n := hpre 7 (by kernel_rfl)
   have m := hcl 7 6 (by kernel_rfl) n
   have z := hcl 6 5 (by kernel_rfl) m
   have p := hSi
   have f := ngF hcl 9 8 p
   have b := ngF hcl 10 9 f
   have j := ngF hcl 11 8 p
   obtain rfl := L z
   obtain rfl := P m
   obtain rfl := X n
   obtain rfl := Q b
   obtain rfl := Y f
   refine hG (any_step ?_); clear hG G; intro A J hJ
   have d := Fz.le.trans d c
   have hzst := Fz.le.refl g
   have bR := hs4.mono c
   have aF := hMx.keep (List.Sublist.cons_cons _ (List.Sublist.cons _ (List.Sublist.refl _))); clear hMx
   refine l1 hFx aF 13 0 1 (.slice ao2 u0.abs.length cap3) rfl rfl ?_; intro bS bj; clear hFx
   refine nl (qnI (hJ _ _ ?_)); clear hJ J
   have bk := aF.nilRes
   exact ⟨k, l, q, s, x, D, aa, T, M, E, pt b1 0, pt b1 0, pt b1 1, .slice ao2 u0.abs.length cap3, F, y, .row b1 [.bool u0.neg, .slice ao2 u0.abs.length cap3] 117, .nil, g, c, bj.reg, bk.perm ((pk 1 rfl).trans (lpr.cons _)), (nt j), H, I, O, W, ac, kf, kf, kf, kf, (nt f), (nt b), kf, (nt b), kf, (fun h _ => nt f h), (nt b), (nt b), (nt b)⟩
  ·
   obtain rfl := oj hi
   have p := hpre 8 (by kernel_rfl)
   have n := hcl 8 7 (by kernel_rfl) p
   have m := hcl 7 6 (by kernel_rfl) n
   have z := hcl 6 5 (by kernel_rfl) m
   have f := hSi
   have b := ngF hcl 10 9 f
   have j := ngF hcl 11 9 f
   obtain rfl := L z
   obtain rfl := P m
   obtain rfl := X n
   obtain rfl := ad p
   obtain rfl := Q b
   obtain rfl := Y f
   refine hG (any_step ?_); clear hG G; intro A J hJ
   have d := Fz.le.trans d c
   have hzst := Fz.le.refl g
   have av := hs4.mono c
   have aw := hMx.keep (List.Sublist.cons_cons _ (List.Sublist.cons _ (List.Sublist.refl _))); clear hMx
   refine ck hFx 127 #[.slice ao2 u0.abs.length cap3] ?_
   refine (gtwin_fun u0.abs aN ao2 cap3 _ _ av aw.fz).mono ?_; rintro _ bl ⟨ak, al, aG, rfl, hm⟩; refine ⟨_, rfl, ?_⟩; intro bT bm; have aH := aw.callZ hm; have ax := hm.ext.le; clear hm aw hFx
   replace hzst := hzst.mono ax
   replace av := av.mono ax
   replace d := Fz.le.trans d ax
   have bn : Mem B [] w0 Z0 ((.own (tyInt .u32) 143 ak al (gtwinS u0.abs)) :: (.row b1 [.bool u0.neg, .slice ao2 u0.abs.length cap3] 117) :: Rr) aG bl := aH; clear aH
   refine nl (qnI (hJ _ _ ?_)); clear hJ J
   exact ⟨ak, al, q, s, x, D, aa, T, M, E, pt b1 0, pt b1 0, pt b1 1, .slice ao2 u0.abs.length cap3, .slice ak (gtwinS u0.abs).length al, y, .row b1 [.bool u0.neg, .slice ao2 u0.abs.length cap3] 117, .own (tyInt .u32) 143 ak al (gtwinS u0.abs), aG, c.trans hzst, bm.reg, bn.perm ((pk 1 rfl).trans (lpr.cons _)), (nt j), H, I, O, W, ac, kf, kf, kf, kf, kf, (nt b), kf, (nt b), nu, kf2, (nt b), (nt b), (nt b)⟩
  ·
   obtain rfl := oj hi
   have f := hpre 9 (by kernel_rfl)
   have v := hpre 4 (by kernel_rfl)
   have ah := hpre 0 (by kernel_rfl)
   have p := hcl 9 8 (by kernel_rfl) f
   have u := hcl 4 3 (by kernel_rfl) v
   have n := hcl 8 7 (by kernel_rfl) p
   have t := hcl 3 2 (by kernel_rfl) u
   have m := hcl 7 6 (by kernel_rfl) n
   have R := hcl 2 1 (by kernel_rfl) t
   have z := hcl 6 5 (by kernel_rfl) m
   have b := hSi
   have j := ngF hcl 11 10 b
   obtain rfl := H ah
   obtain rfl := I R
   obtain rfl := O t
   obtain rfl := W u
   obtain rfl := ac v
   obtain rfl := L z
   obtain rfl := P m
   obtain rfl := X n
   obtain rfl := ad p
   obtain rfl := af f
   obtain rfl := Q b
   obtain rfl := ag f b
   refine hG (any_step ?_); clear hG G; intro A J hJ
   have d := Fz.le.trans d c
   have hzst := Fz.le.refl g
   have aj := hs4.mono c
   obtain ⟨bo, ay, aI, am⟩ := hMx.freeze 1 rfl
   replace hzst := hzst.mono ay
   replace aj := aj.mono ay
   replace d := Fz.le.trans d ay
   have az : Mem B [] w0 Z0 ((.row b1 [.bool u0.neg, .slice ao2 u0.abs.length cap3] 117) :: Rr) bo w1 := aI; clear aI
   refine ck hFx 102 #[pt b1 0, .bool u0.neg, .slice k (gtwinS u0.abs).length l] ?_
   refine (ggive_fun u0 u0.neg (gtwinS u0.abs) b1 ao2 cap3 k l _ _ _ _ _ _ aj am az az.fz).mono ?_; rintro _ bp ⟨aA, aB, aJ, rfl, an, bq, hm⟩; refine ⟨_, rfl, ?_⟩; intro bU br; have aK := hm; clear hm az hFx
   replace hzst := hzst.mono an
   replace aj := aj.mono an
   replace am := am.mono an
   replace d := Fz.le.trans d an
   have bs : Mem B [] w0 Z0 ((.row b1 [.bool ((ggive u0 u0.neg (gtwinS u0.abs)).neg), .slice aA ((ggive u0 u0.neg (gtwinS u0.abs)).abs).length aB] 117) :: Rr) aJ bp := aK; clear aK
   refine nl (qnI (hJ _ _ ?_)); clear hJ J
   have bt := bs.nilRes
   exact ⟨k, l, aA, aB, x, pt b1 0, pt b1 0, pt b1 0, pt b1 0, .bool u0.neg, pt b1 0, pt b1 0, pt b1 1, .slice ao2 u0.abs.length cap3, .slice k (gtwinS u0.abs).length l, pt b1 0, .nil, .row b1 [.bool ((ggive u0 u0.neg (gtwinS u0.abs)).neg), .slice aA ((ggive u0 u0.neg (gtwinS u0.abs)).abs).length aB] 117, aJ, c.trans hzst, br.reg, bt.perm lpr, (nt j), kf, kf, kf, kf, kf, kf, kf, kf, kf, kf, kf, nu, kf, (tn f), (fun _ => nu), kf, (fun _ => am), (fun _ => bq)⟩
  obtain rfl := oj hi
  have b := hpre 10 (by kernel_rfl)
  have f := hpre 9 (by kernel_rfl)
  have p := hpre 8 (by kernel_rfl)
  have n := hpre 7 (by kernel_rfl)
  have m := hpre 6 (by kernel_rfl)
  have z := hpre 5 (by kernel_rfl)
  have v := hpre 4 (by kernel_rfl)
  have u := hpre 3 (by kernel_rfl)
  have t := hpre 2 (by kernel_rfl)
  have R := hpre 1 (by kernel_rfl)
  have ah := hpre 0 (by kernel_rfl)
  have j := hSi
  obtain rfl := H ah
  obtain rfl := I R
  obtain rfl := O t
  obtain rfl := W u
  obtain rfl := ac v
  obtain rfl := L z
  obtain rfl := P m
  obtain rfl := X n
  obtain rfl := ad p
  obtain rfl := af f
  obtain rfl := ao b
  obtain rfl := ap b
  obtain rfl := aq b
  refine hG (any_step ?_); clear hG G; intro A J hJ
  have d := Fz.le.trans d c
  have hzst := Fz.le.refl g
  have bV := hs4.mono c
  have bu := ar b
  have bv := au b
  have bw := hMx.keep (List.Sublist.cons _ (List.Sublist.cons_cons _ (List.Sublist.refl _))); clear hMx
  refine s1 hFx 4 (pt b1 0) ?_; intro bW bx; clear hFx
  refine nl (qnI (hJ _ _ ?_)); clear hJ J
  have bz := bw.nilRes
  exact ⟨k, l, q, s, pt b1 0, pt b1 0, pt b1 0, pt b1 0, pt b1 0, .bool u0.neg, pt b1 0, pt b1 0, pt b1 1, .slice ao2 u0.abs.length cap3, .slice k (gtwinS u0.abs).length l, pt b1 0, .nil, .row b1 [.bool ((ggive u0 u0.neg (gtwinS u0.abs)).neg), .slice q ((ggive u0 u0.neg (gtwinS u0.abs)).abs).length s] 117, g, c, bx.reg, bz.perm lpr, kf, kf, kf, kf, kf, kf, kf, kf, kf, kf, kf, kf, (tn b), kf, (tn f), (fun _ => tn b), kf, (fun _ => bu), (fun _ => bv)⟩
 case hE =>
  intro S hS bX bY hI; refine Go.Sy.hid ?_; intro G hG; obtain ⟨k, l, q, s, x, D, aa, T, M, E, ae, ab, U, N, F, y, ai, V, g, c, hFx, hMx, aE, H, I, O, W, ac, L, P, X, ad, af, ao, Q, ap, Y, ag, aq, ar, hI⟩ := hI; have au := hI; clear hI; refine hG ?_; clear hG G
  obtain rfl := aE (hS 11 (by decide))
  obtain rfl := H (hS 0 (by decide))
  obtain rfl := I (hS 1 (by decide))
  obtain rfl := O (hS 2 (by decide))
  obtain rfl := W (hS 3 (by decide))
  obtain rfl := ac (hS 4 (by decide))
  obtain rfl := L (hS 5 (by decide))
  obtain rfl := P (hS 6 (by decide))
  obtain rfl := X (hS 7 (by decide))
  obtain rfl := ad (hS 8 (by decide))
  obtain rfl := af (hS 9 (by decide))
  obtain rfl := ao (hS 10 (by decide))
  obtain rfl := ap (hS 10 (by decide))
  obtain rfl := aq (hS 10 (by decide))
  have d := Fz.le.trans d c
  have bZ := hs4.mono c
  have b0 := ar (hS 10 (by decide))
  have bA := au (hS 10 (by decide))
  have hMx := hMx.keep (List.Sublist.cons _ (List.Sublist.cons_cons _ (List.Sublist.refl _)))
  refine thn ?_
  refine wp_ret ?_
  refine ra1 hFx (pt b1 0) ?_
  exact ⟨(ggive u0 u0.neg (gtwinS u0.abs)), q, s, g, rfl, aO, d, bA, hMx.keep (List.Sublist.cons_cons _ (List.Sublist.refl _))⟩

end Go.Proofs.YtmbdcehmeiiaoaaGreatDoor
set_option linter.unusedVariables false
set_option linter.unusedSimpArgs false
set_option maxRecDepth 100000
set_option maxHeartbeats 0
namespace Go.Proofs.YtmbdcehmeiiaoaaGreatDoor
open Go.Sy Go.RowKit
theorem gof_fun (u0 : BInt) (u1 : List Int) (hpre : wok u1 ∧ u1.length ≤ 1000000 ∧ ∀ q, u1[u1.length - 1]? = some q → q < 2147483648) (b1 : Nat) (ao2 : Option Addr) (cap3 : Nat) (ao5 : Option Addr) (cap6 : Nat) (B : Nat) (w0 : World) (Z0 : Fz) (Rr : List Res) (Z : Fz) (w : World) (hs4 : SlR (tyInt .u32) Z ao2 cap3 u0.abs) (hM0 : Mem B [] w0 Z0 ((.row b1 [.bool u0.neg, .slice ao2 u0.abs.length cap3] 117) :: (.own (tyInt .u32) 143 ao5 cap6 u1) :: Rr) Z w) (hZ : Z.on w) : Calls Tryz.prog 106 #[pt b1 0, .slice ao5 u1.length cap6] w fun e w' => ∃ (ao1001 : Option Addr) (cap1002 : Nat) (Z' : Fz), e = .returned (pt b1 0) ∧ Fz.le Z Z' ∧ SlR (tyInt .u32) Z' ao1001 cap1002 (gofS u0 u1).abs ∧ Mem B [] w0 Z0 ((.row b1 [.bool (gofS u0 u1).neg, .slice ao1001 (gofS u0 u1).abs.length cap1002] 117) :: Rr) Z' w' :=
  (gof_walk u0 u1 b1 ao2 cap3 ao5 cap6 B w0 Z0 Rr Z w hs4 hM0 hZ (gof_ok u0 u1 hpre)).mono fun _ _ ⟨r, h0, h1, h2, he, hk, f0, f1, hm⟩ => by subst hk; exact ⟨h0, h1, h2, he, f0, f1, hm⟩

theorem gseti_fun (u0 : BInt) (u1 : Int) (hpre : 0 ≤ u1 ∧ u1 ≤ 9223372036854775807) (b1 : Nat) (ao2 : Option Addr) (cap3 : Nat) (B : Nat) (w0 : World) (Z0 : Fz) (Rr : List Res) (Z : Fz) (w : World) (hs4 : SlR (tyInt .u32) Z ao2 cap3 u0.abs) (hM0 : Mem B [] w0 Z0 ((.row b1 [.bool u0.neg, .slice ao2 u0.abs.length cap3] 117) :: Rr) Z w) (hZ : Z.on w) : Calls Tryz.prog 104 #[pt b1 0, i6 u1] w fun e w' => ∃ (ao1001 : Option Addr) (cap1002 : Nat) (Z' : Fz), e = .returned (pt b1 0) ∧ Fz.le Z Z' ∧ SlR (tyInt .u32) Z' ao1001 cap1002 (gsetiS u0 u1).abs ∧ Mem B [] w0 Z0 ((.row b1 [.bool (gsetiS u0 u1).neg, .slice ao1001 (gsetiS u0 u1).abs.length cap1002] 117) :: Rr) Z' w' :=
  (gseti_walk u0 u1 b1 ao2 cap3 B w0 Z0 Rr Z w hs4 hM0 hZ (gseti_ok u0 u1 hpre)).mono fun _ _ ⟨r, h0, h1, h2, he, hk, f0, f1, hm⟩ => by subst hk; exact ⟨h0, h1, h2, he, f0, f1, hm⟩

theorem glsh_fun (u0 : BInt) (u1 : BInt) (u2 : Int) (hpre : u1.neg = false ∧ wok u1.abs ∧ u1.abs.length ≤ 1000 ∧ 0 ≤ u2 ∧ u2 ≤ 100000) (b1 : Nat) (ao2 : Option Addr) (cap3 : Nat) (b5 : Nat) (ao6 : Option Addr) (cap7 : Nat) (B : Nat) (w0 : World) (Z0 : Fz) (Rr : List Res) (Z : Fz) (w : World) (hs4 : SlR (tyInt .u32) Z ao2 cap3 u0.abs) (hs8 : SlR (tyInt .u32) Z ao6 cap7 u1.abs) (hM0 : Mem B [] w0 Z0 ((.row b1 [.bool u0.neg, .slice ao2 u0.abs.length cap3] 117) :: (.row b5 [.bool u1.neg, .slice ao6 u1.abs.length cap7] 117) :: Rr) Z w) (hZ : Z.on w) : Calls Tryz.prog 80 #[pt b1 0, pt b5 0, y6 u2] w fun e w' => ∃ (ao1001 : Option Addr) (cap1002 : Nat) (ao1004 : Option Addr) (cap1005 : Nat) (Z' : Fz), e = .returned (pt b1 0) ∧ Fz.le Z Z' ∧ SlR (tyInt .u32) Z' ao1001 cap1002 (glshS u0 u1 u2).1.abs ∧ SlR (tyInt .u32) Z' ao1004 cap1005 (glshS u0 u1 u2).2.abs ∧ Mem B [] w0 Z0 ((.row b1 [.bool (glshS u0 u1 u2).1.neg, .slice ao1001 (glshS u0 u1 u2).1.abs.length cap1002] 117) :: (.row b5 [.bool (glshS u0 u1 u2).2.neg, .slice ao1004 (glshS u0 u1 u2).2.abs.length cap1005] 117) :: Rr) Z' w' :=
  (glsh_walk u0 u1 u2 b1 ao2 cap3 b5 ao6 cap7 B w0 Z0 Rr Z w hs4 hs8 hM0 hZ (glsh_ok u0 u1 u2 hpre)).mono fun _ _ ⟨r, h0, h1, h2, h3, h4, he, hk, f0, f1, f2, hm⟩ => by subst hk; exact ⟨h0, h1, h2, h3, h4, he, f0, f1, f2, hm⟩

theorem glshA_fun (u0 : BInt) (u2 : Int) (hpre : u0.neg = false ∧ wok u0.abs ∧ u0.abs.length ≤ 1000 ∧ 0 ≤ u2 ∧ u2 ≤ 100000) (b1 : Nat) (ao2 : Option Addr) (cap3 : Nat) (B : Nat) (w0 : World) (Z0 : Fz) (Rr : List Res) (Z : Fz) (w : World) (hs4 : SlR (tyInt .u32) Z ao2 cap3 u0.abs) (hM0 : Mem B [] w0 Z0 ((.row b1 [.bool u0.neg, .slice ao2 u0.abs.length cap3] 117) :: Rr) Z w) (hZ : Z.on w) : Calls Tryz.prog 80 #[pt b1 0, pt b1 0, y6 u2] w fun e w' => ∃ (ao1001 : Option Addr) (cap1002 : Nat) (Z' : Fz), e = .returned (pt b1 0) ∧ Fz.le Z Z' ∧ SlR (tyInt .u32) Z' ao1001 cap1002 (glshAS u0 u2).abs ∧ Mem B [] w0 Z0 ((.row b1 [.bool (glshAS u0 u2).neg, .slice ao1001 (glshAS u0 u2).abs.length cap1002] 117) :: Rr) Z' w' :=
  (glshA_walk u0 u2 b1 ao2 cap3 B w0 Z0 Rr Z w hs4 hM0 hZ (glshA_ok u0 u2 hpre)).mono fun _ _ ⟨r, h0, h1, h2, he, hk, f0, f1, hm⟩ => by subst hk; exact ⟨h0, h1, h2, he, f0, f1, hm⟩

theorem gblen_fun (u0 : BInt) (hpre : u0.abs = ws (wv u0.abs) ∧ u0.abs.length ≤ 1000000) (b1 : Nat) (ao2 : Option Addr) (cap3 : Nat) (B : Nat) (w0 : World) (Z0 : Fz) (Rr : List Res) (Z : Fz) (w : World) (hs4 : SlR (tyInt .u32) Z ao2 cap3 u0.abs) (hM0 : Mem B [] w0 Z0 ((.row b1 [.bool u0.neg, .slice ao2 u0.abs.length cap3] 117) :: Rr) Z w) (hZ : Z.on w) : Calls Tryz.prog 84 #[pt b1 0] w fun e w' => ∃ (ao1001 : Option Addr) (cap1002 : Nat) (Z' : Fz), e = .returned (i6 (gblenS u0).1) ∧ Fz.le Z Z' ∧ SlR (tyInt .u32) Z' ao1001 cap1002 (gblenS u0).2.abs ∧ Mem B [] w0 Z0 ((.row b1 [.bool (gblenS u0).2.neg, .slice ao1001 (gblenS u0).2.abs.length cap1002] 117) :: Rr) Z' w' :=
  (gblen_walk u0 b1 ao2 cap3 B w0 Z0 Rr Z w hs4 hM0 hZ (gblen_ok u0 hpre)).mono fun _ _ ⟨r, h0, h1, h2, he, hk, f0, f1, hm⟩ => by subst hk; exact ⟨h0, h1, h2, he, f0, f1, hm⟩

theorem gint64_fun (u0 : BInt) (hpre : u0.neg = false ∧ wok u0.abs ∧ wv u0.abs < 9223372036854775808) (b1 : Nat) (ao2 : Option Addr) (cap3 : Nat) (B : Nat) (w0 : World) (Z0 : Fz) (Rr : List Res) (Z : Fz) (w : World) (hs4 : SlR (tyInt .u32) Z ao2 cap3 u0.abs) (hM0 : Mem B [] w0 Z0 ((.row b1 [.bool u0.neg, .slice ao2 u0.abs.length cap3] 117) :: Rr) Z w) (hZ : Z.on w) : Calls Tryz.prog 85 #[pt b1 0] w fun e w' => ∃ (ao1001 : Option Addr) (cap1002 : Nat) (Z' : Fz), e = .returned (i6 (gint64S u0).1) ∧ Fz.le Z Z' ∧ SlR (tyInt .u32) Z' ao1001 cap1002 (gint64S u0).2.abs ∧ Mem B [] w0 Z0 ((.row b1 [.bool (gint64S u0).2.neg, .slice ao1001 (gint64S u0).2.abs.length cap1002] 117) :: Rr) Z' w' :=
  (gint64_walk u0 b1 ao2 cap3 B w0 Z0 Rr Z w hs4 hM0 hZ (gint64_ok u0 hpre)).mono fun _ _ ⟨r, h0, h1, h2, he, hk, f0, f1, hm⟩ => by subst hk; exact ⟨h0, h1, h2, he, f0, f1, hm⟩

theorem gsetstr_fun (u0 : BInt) (u1 : List UInt8) (hpre : isRow u1 = true ∧ u1 ≠ [] ∧ u1.length ≤ 1000) (b1 : Nat) (ao2 : Option Addr) (cap3 : Nat) (B : Nat) (w0 : World) (Z0 : Fz) (Rr : List Res) (Z : Fz) (w : World) (hs4 : SlR (tyInt .u32) Z ao2 cap3 u0.abs) (hM0 : Mem B [] w0 Z0 ((.row b1 [.bool u0.neg, .slice ao2 u0.abs.length cap3] 117) :: Rr) Z w) (hZ : Z.on w) : Calls Tryz.prog 101 #[pt b1 0, str u1, i6 2] w fun e w' => ∃ (ao1001 : Option Addr) (cap1002 : Nat) (Z' : Fz), e = .returned (.tuple #[.pointer (if (gsetstrS u0 u1).1 = true then some ⟨b1, 0, none⟩ else none), .bool (gsetstrS u0 u1).2.1]) ∧ Fz.le Z Z' ∧ SlR (tyInt .u32) Z' ao1001 cap1002 (gsetstrS u0 u1).2.2.abs ∧ Mem B [] w0 Z0 ((.row b1 [.bool (gsetstrS u0 u1).2.2.neg, .slice ao1001 (gsetstrS u0 u1).2.2.abs.length cap1002] 117) :: Rr) Z' w' :=
  (gsetstr_walk u0 u1 b1 ao2 cap3 B w0 Z0 Rr Z w hs4 hM0 hZ (gsetstr_ok u0 u1 hpre)).mono fun _ _ ⟨r, h0, h1, h2, he, hk, f0, f1, hm⟩ => by subst hk; exact ⟨h0, h1, h2, he, f0, f1, hm⟩

theorem gset_fun (u0 : BInt) (hpre : u0.neg = false ∧ u0.abs.length ≤ 1000000) (b1 : Nat) (ao2 : Option Addr) (cap3 : Nat) (B : Nat) (w0 : World) (Z0 : Fz) (Rr : List Res) (Z : Fz) (w : World) (hs4 : SlR (tyInt .u32) Z ao2 cap3 u0.abs) (hM0 : Mem B [] w0 Z0 ((.row b1 [.bool u0.neg, .slice ao2 u0.abs.length cap3] 117) :: Rr) Z w) (hZ : Z.on w) : Calls Tryz.prog 107 #[pt b1 0, pt b1 0] w fun e w' => ∃ (ao1001 : Option Addr) (cap1002 : Nat) (Z' : Fz), e = .returned (pt b1 0) ∧ Fz.le Z Z' ∧ SlR (tyInt .u32) Z' ao1001 cap1002 (gsetS u0).abs ∧ Mem B [] w0 Z0 ((.row b1 [.bool (gsetS u0).neg, .slice ao1001 (gsetS u0).abs.length cap1002] 117) :: Rr) Z' w' :=
  (gset_walk u0 b1 ao2 cap3 B w0 Z0 Rr Z w hs4 hM0 hZ (gset_ok u0 hpre)).mono fun _ _ ⟨r, h0, h1, h2, he, hk, f0, f1, hm⟩ => by subst hk; exact ⟨h0, h1, h2, he, f0, f1, hm⟩

theorem gxor_walk (u0 : BInt) (u2 : BInt) (b1 : Nat) (ao2 : Option Addr) (cap3 : Nat) (b5 : Nat) (ao6 : Option Addr) (cap7 : Nat) (B : Nat) (w0 : World) (Z0 : Fz) (Rr : List Res) (Z : Fz) (w : World) (hs4 : SlR (tyInt .u32) Z ao2 cap3 u0.abs) (hs8 : SlR (tyInt .u32) Z ao6 cap7 u2.abs) (hM0 : Mem B [] w0 Z0 ((.row b1 [.bool u0.neg, .slice ao2 u0.abs.length cap3] 117) :: (.row b5 [.bool u2.neg, .slice ao6 u2.abs.length cap7] 117) :: Rr) Z w) (hZ : Z.on w) {K : (BInt × BInt) → Prop} (hp : gxor_vc u0 u2 K) : Calls Tryz.prog 82 #[pt b1 0, pt b1 0, pt b5 0] w fun e w' => ∃ (r : BInt × BInt) (ao1001 : Option Addr) (cap1002 : Nat) (ao1004 : Option Addr) (cap1005 : Nat) (Z' : Fz), e = .returned (pt b1 0) ∧ K r ∧ Fz.le Z Z' ∧ SlR (tyInt .u32) Z' ao1001 cap1002 r.1.abs ∧ SlR (tyInt .u32) Z' ao1004 cap1005 r.2.abs ∧ Mem B [] w0 Z0 ((.row b1 [.bool r.1.neg, .slice ao1001 r.1.abs.length cap1002] 117) :: (.row b5 [.bool r.2.neg, .slice ao1004 r.2.abs.length cap1005] 117) :: Rr) Z' w' := by
 refine enter0 Tryz.func82 rfl rfl (by kernel_rfl) ?_; intro a0 ag; have q := Fz.le.refl Z
 have ah := hp (hs4.small); clear hp
 have bq := ah (hs8.small); clear ah
 refine sqB ag hM0 [] [] [] ?_; intro br ai; clear ag
 have aj : Fr 47 [] [⟨0, [], pt b1 0⟩, ⟨1, [], pt b1 0⟩, ⟨2, [], pt b5 0⟩] br := ai.reg; clear ai
 refine sqQH mixed (by kernel_rfl) hM0 ?_; intro bs ak
 refine q1 aj 11 (pt b1 0) ?_; intro co al; clear aj
 refine q1 al 12 (pt b1 0) ?_; intro cp am; clear al
 refine q1 am 13 (pt b1 1) ?_; intro cq R; clear am
 refine qst R (.slice ao2 u0.abs.length cap3) (nog rfl _) rfl (by kernel_rfl) (fun v25 hC => ld R hC 0 (g := []) (b := b1) (off := 1) (cs := [.bool u0.neg, .slice ao2 u0.abs.length cap3]) (ty := 117) rfl (by kernel_rfl) (by kernel_rfl) (by kernel_rfl) (by kernel_rfl) rfl) ?_; intro cr an; clear R
 refine q1 an 15 (i6 (u0.abs.length : Int)) ?_; intro ct ao; clear an
 refine q1 ao 16 (pt b5 0) ?_; intro cu ap; clear ao
 refine q1 ap 17 (pt b5 0) ?_; intro cv aq; clear ap
 refine q1 aq 18 (pt b5 1) ?_; intro cw S; clear aq
 refine qst S (.slice ao6 u2.abs.length cap7) (nog rfl _) rfl (by kernel_rfl) (fun v40 hC => ld S hC 1 (g := []) (b := b5) (off := 1) (cs := [.bool u2.neg, .slice ao6 u2.abs.length cap7]) (ty := 117) rfl (by kernel_rfl) (by kernel_rfl) (by kernel_rfl) (by kernel_rfl) rfl) ?_; intro cx ar; clear S
 refine q1 ar 20 (i6 (u2.abs.length : Int)) ?_; intro cy U; clear ar
 refine qst U (i6 (max (u0.abs.length : Int) (u2.abs.length : Int))) (nog rfl _) rfl (by kernel_rfl) (fun v46 hC => re_ (p0 U (r := .ok (.value (i6 (if (u0.abs.length : Int) < (u2.abs.length : Int) then (u2.abs.length : Int) else (u0.abs.length : Int)))) v46) (by kernel_rfl)) (by rw [imax])) ?_; intro cz au; clear U
 refine q1 au 22 (i6 (w64 ((max (u0.abs.length : Int) (u2.abs.length : Int)) + 1))) ?_; intro cA av; clear au
 refine q1 av 7 (i6 (w64 ((max (u0.abs.length : Int) (u2.abs.length : Int)) + 1))) ?_; intro cB aw; clear av
 refine qnl (ak _ ?_); clear ak bs; intro cC L; clear hM0
 refine sqH ?_; intro bu ax
 refine bt aw L 2 [] [] [(23, pt b1 0), (24, i6 (w64 ((max (u0.abs.length : Int) (u2.abs.length : Int)) + 1)))] ?_; intro cD ay; clear aw
 obtain ⟨bv, az⟩ := bq
 refine ck ay 105 #[pt b1 0, i6 (w64 ((max (u0.abs.length : Int) (u2.abs.length : Int)) + 1))] ?_
 obtain ⟨d, bw, aA⟩ := hxq az; clear az
 have p := glow_fun u0 (w64 ((max (u0.abs.length : Int) (u2.abs.length : Int)) + 1)) bv b1 ao2 cap3 _ _ _ _ _ _ hs4 L L.fz; rw [bw] at p; refine p.mono ?_; clear p; rintro _ bx ⟨i, f, v, x, bz, rfl, V, A, hm⟩; refine ⟨_, rfl, ?_⟩; intro cE aB; have aC := hm; clear hm L ay
 replace hs4 := hs4.mono V
 replace hs8 := hs8.mono V
 replace q := Fz.le.trans q V
 have H : Mem B [] w0 Z0 ((.own (tyInt .u32) 143 i f d.1) :: (.row b1 [.bool d.2.neg, .slice v d.2.abs.length x] 117) :: (.row b5 [.bool u2.neg, .slice ao6 u2.abs.length cap7] 117) :: Rr) bz bx := aC; clear aC
 have aD := aA (H.ownSmall 0 rfl); clear aA
 have bA := aD (A.small); clear aD
 refine bt aB H 2 [] [] [(26, pt b5 0), (27, i6 (w64 ((max (u0.abs.length : Int) (u2.abs.length : Int)) + 1)))] ?_; intro cF aE; clear aB
 obtain ⟨bB, aF⟩ := bA
 refine ck aE 105 #[pt b5 0, i6 (w64 ((max (u0.abs.length : Int) (u2.abs.length : Int)) + 1))] ?_
 obtain ⟨a, bC, aG⟩ := hxq aF; clear aF
 have p := glow_fun u2 (w64 ((max (u0.abs.length : Int) (u2.abs.length : Int)) + 1)) bB b5 ao6 cap7 _ _ _ _ _ _ hs8 (H.perm (pk 2 rfl)) H.fz; rw [bC] at p; refine p.mono ?_; clear p; rintro _ aH ⟨m, n, y, z, bD, rfl, M, E, hm⟩; refine ⟨_, rfl, ?_⟩; intro cG aI; have aJ := hm; clear hm H aE
 replace hs4 := hs4.mono M
 replace hs8 := hs8.mono M
 replace A := A.mono M
 replace q := Fz.le.trans q M
 have N : Mem B [] w0 Z0 ((.own (tyInt .u32) 143 m n a.1) :: (.row b5 [.bool a.2.neg, .slice y a.2.abs.length z] 117) :: (.own (tyInt .u32) 143 i f d.1) :: (.row b1 [.bool d.2.neg, .slice v d.2.abs.length x] 117) :: Rr) bD aH := aJ; clear aJ
 have aK := aG (N.ownSmall 0 rfl); clear aG
 have bE := aK (E.small); clear aK
 refine bt aI N 2 [] [] [(8, .slice i d.1.length f), (9, .slice m a.1.length n)] ?_; intro cH aL; clear aI
 refine nlH (ax _ _ ?_); clear ax bu
 refine wp_seq ?_
 refine sqB aL N [] [] [(10, i6 0)] ?_; intro aM aN; clear aL
 refine wp_block ?_
 have aO : Fr 47 [] [⟨0, [], pt b1 0⟩, ⟨7, [], i6 (w64 ((max (u0.abs.length : Int) (u2.abs.length : Int)) + 1))⟩, ⟨8, [], .slice i d.1.length f⟩, ⟨9, [], .slice m a.1.length n⟩, ⟨10, [], i6 0⟩] aM := aN.reg; clear aN
 obtain ⟨C, I, aP, W⟩ := N.freeze 0 rfl
 replace hs4 := hs4.mono I
 replace hs8 := hs8.mono I
 replace A := A.mono I
 replace E := E.mono I
 replace q := Fz.le.trans q I
 have aQ : Mem B [] w0 Z0 ((.row b5 [.bool a.2.neg, .slice y a.2.abs.length z] 117) :: (.own (tyInt .u32) 143 i f d.1) :: (.row b1 [.bool d.2.neg, .slice v d.2.abs.length x] 117) :: Rr) C aH := aP; clear aP
 have aR : Fr 47 [] [⟨0, [], pt b1 0⟩, ⟨7, [], i6 (w64 ((max (u0.abs.length : Int) (u2.abs.length : Int)) + 1))⟩, ⟨8, [], .slice i d.1.length f⟩, ⟨9, [], .slice m a.1.length n⟩, ⟨10, [], i6 0⟩] aM := aO.reg; clear aO
 obtain ⟨bF, bG, bH, bI⟩ := bE
 refine lp (ι := Int × (List Int)) (fun (s : Int × (List Int)) => [⟨0, [], pt b1 0⟩, ⟨7, [], i6 (w64 ((max (u0.abs.length : Int) (u2.abs.length : Int)) + 1))⟩, ⟨8, [], .slice i s.2.length f⟩, ⟨9, [], .slice m a.1.length n⟩, ⟨10, [], i6 s.1⟩]) (fun (s : Int × (List Int)) => ((.row b5 [.bool a.2.neg, .slice y a.2.abs.length z] 117) :: (.own (tyInt .u32) 143 i f s.2) :: (.row b1 [.bool d.2.neg, .slice v d.2.abs.length x] 117) :: Rr)) (fun (s : Int × (List Int)) => C) (fun (s : Int × (List Int)) => bF s.1 s.2) (fun (s : Int × (List Int)) => bG s.1 s.2) ⟨0, d.1⟩ bH (by exact aR.reg) (by exact aQ) ?_
 rintro ⟨c, h⟩ bJ bK bL aS aT
 have aU : Fr 47 [] [⟨0, [], pt b1 0⟩, ⟨7, [], i6 (w64 ((max (u0.abs.length : Int) (u2.abs.length : Int)) + 1))⟩, ⟨8, [], .slice i h.length f⟩, ⟨9, [], .slice m a.1.length n⟩, ⟨10, [], i6 c⟩] bK := aS; clear aS aR
 have D : Mem B [] w0 Z0 ((.row b5 [.bool a.2.neg, .slice y a.2.abs.length z] 117) :: (.own (tyInt .u32) 143 i f h) :: (.row b1 [.bool d.2.neg, .slice v d.2.abs.length x] 117) :: Rr) C bL := aT; clear aT aQ
 have O := bI c h bJ
 refine wp_seq ?_
 refine sqB aU D [] [] [(31, .bool (decide (c < (w64 ((max (u0.abs.length : Int) (u2.abs.length : Int)) + 1)))))] ?_; intro bM J; clear aU
 refine cd J (t := decide (c < (w64 ((max (u0.abs.length : Int) (u2.abs.length : Int)) + 1)))) (by kernel_rfl) (fun X => ?_) (fun X => ?_)
 ·
  have bN := O.1 X; clear O
  refine wp_skip ?_
  refine thn ?_
  refine wp_seq ?_
  refine wp_block ?_
  have aV : Fr 47 [] [⟨0, [], pt b1 0⟩, ⟨7, [], i6 (w64 ((max (u0.abs.length : Int) (u2.abs.length : Int)) + 1))⟩, ⟨8, [], .slice i h.length f⟩, ⟨9, [], .slice m a.1.length n⟩, ⟨10, [], i6 c⟩] bM := J.reg; clear J
  refine rgS mixed D [(0, true), (1, true), (4, true), (5, true), (6, true), (7, true), (2, false), (3, false), (8, true), (9, false), (10, false)] [] [] ?_
  intro bO aW aX Y; clear D
  have P := Fz.le.refl C
  refine cS aV 4 [] [] [(34, .slice i h.length f), (35, i6 c), (38, .slice m a.1.length n), (39, i6 c)] ?_; intro cI aY; clear aV
  obtain ⟨bP, aZ⟩ := bN
  refine cix rfl aY (T := (tyInt .u32)) (xs := a.1) W c bP (k := .i64) (e := 143) (bytes := 4) (nog rfl _) rfl (by kernel_rfl) rfl (by kernel_rfl) (by kernel_rfl) (by kernel_rfl) ?_; intro aa ab bQ j cJ bR bS bT ac; clear aY
  have bU := aZ j bR; clear aZ
  obtain rfl : bQ = ([.int .u32 j] : List Value) := bT
  refine cst rfl ac (.int .u32 j) (nog rfl _) rfl (by kernel_rfl) (fun v167 hC => lz ac hC.fz bS 0 (g := []) rfl (by kernel_rfl) (by kernel_rfl) (by kernel_rfl) rfl) ?_; intro cK a1; clear ac
  refine eS rfl ?_; intro bV a2
  obtain ⟨bW, a3⟩ := bU
  refine ixo a1 Y 1 (T := (tyInt .u32)) (xs := h) c bW (k := .i64) (e := 143) (bytes := 4) (nog rfl _) rfl (by kernel_rfl) rfl (by kernel_rfl) (by kernel_rfl) rfl (by kernel_rfl) ?_; intro l bX bY a4; clear a1
  subst bY
  have a5 : Fr 47 [] [⟨0, [], pt b1 0⟩, ⟨7, [], i6 (w64 ((max (u0.abs.length : Int) (u2.abs.length : Int)) + 1))⟩, ⟨8, [], .slice (sm l) h.length f⟩, ⟨9, [], .slice m a.1.length n⟩, ⟨10, [], i6 c⟩, ⟨34, [], .slice (sm l) h.length f⟩, ⟨35, [], i6 c⟩, ⟨36, [], .pointer (some ⟨l, c.toNat * 1, none⟩)⟩, ⟨38, [], .slice m a.1.length n⟩, ⟨39, [], i6 c⟩, ⟨40, [], pt aa ab⟩, ⟨41, [], .int .u32 j⟩] bX := a4.reg; clear a4
  have F : Mem B [] w0 Z0 ((.row b5 [.bool a.2.neg, .slice y a.2.abs.length z] 117) :: (.own (tyInt .u32) 143 (sm l) f h) :: (.row b1 [.bool d.2.neg, .slice v d.2.abs.length x] 117) :: Rr) C aX := Y; clear Y
  refine nl (qnI (a2 _ _ (F.cst P []) ?_)); clear a2 bV
  refine eS rfl ?_; intro bZ a6
  obtain ⟨o, b0, b2⟩ := gxq a3 (by first | omega | (simp only [List.length_set] at *; omega)); clear a3
  obtain ⟨b3, b4, b6⟩ := own_el F 1 (T := (tyInt .u32)) (xs := h) rfl c.toNat b0
  obtain rfl : b3 = ([.int .u32 o] : List Value) := b4
  refine lc1 a5 37 (.int .u32 o) (b6 0 _ rfl) rfl ?_; intro cL a7; clear a5
  refine nl (qnI (a6 _ _ (F.cst P []) ?_)); clear a6 bZ
  refine cS a7 1 [] [] [(42, .int .u32 (bXor .u32 o j))] ?_; intro cM a8; clear a7
  refine eS rfl ?_; intro b7 a9
  obtain ⟨b8, ba⟩ := b2
  refine ixo a8 F 1 (T := (tyInt .u32)) (xs := h) c b8 (k := .i64) (e := 143) (bytes := 4) (nog rfl _) rfl (by kernel_rfl) rfl (by kernel_rfl) (by kernel_rfl) rfl (by kernel_rfl) ?_; intro b9 bb ca bc; clear a8
  obtain rfl : l = b9 := by simpa using ca
  have Q : Fr 47 [] [⟨0, [], pt b1 0⟩, ⟨7, [], i6 (w64 ((max (u0.abs.length : Int) (u2.abs.length : Int)) + 1))⟩, ⟨8, [], .slice (sm l) h.length f⟩, ⟨9, [], .slice m a.1.length n⟩, ⟨10, [], i6 c⟩, ⟨34, [], .slice (sm l) h.length f⟩, ⟨35, [], i6 c⟩, ⟨36, [], .pointer (some ⟨l, c.toNat * 1, none⟩)⟩, ⟨37, [], .int .u32 o⟩, ⟨38, [], .slice m a.1.length n⟩, ⟨39, [], i6 c⟩, ⟨40, [], pt aa ab⟩, ⟨41, [], .int .u32 j⟩, ⟨42, [], .int .u32 (bXor .u32 o j)⟩, ⟨43, [], .pointer (some ⟨l, c.toNat * 1, none⟩)⟩] bb := bc.reg; clear bc
  have ad : Mem B [] w0 Z0 ((.row b5 [.bool a.2.neg, .slice y a.2.abs.length z] 117) :: (.own (tyInt .u32) 143 (sm l) f h) :: (.row b1 [.bool d.2.neg, .slice v d.2.abs.length x] 117) :: Rr) C aX := F; clear F
  refine nl (qnI (a9 _ _ (ad.cst P []) ?_)); clear a9 b7
  refine eS rfl ?_; intro cb bd
  refine so Q ad 1 (T := (tyInt .u32)) (xs := h) c.toNat (bXor .u32 o j) (u := .int .u32 (bXor .u32 o j)) (nog rfl _) rfl rfl (by kernel_rfl) rfl (by kernel_rfl) rfl (by kernel_rfl) (by first | omega | (simp only [List.length_set] at *; omega)) rfl ?_; intro cc be; clear ad
  have bf : Fr 47 [] [⟨0, [], pt b1 0⟩, ⟨7, [], i6 (w64 ((max (u0.abs.length : Int) (u2.abs.length : Int)) + 1))⟩, ⟨8, [], .slice (sm l) (h.set c.toNat (bXor .u32 o j)).length f⟩, ⟨9, [], .slice m a.1.length n⟩, ⟨10, [], i6 c⟩, ⟨34, [], .slice (sm l) (h.set c.toNat (bXor .u32 o j)).length f⟩, ⟨35, [], i6 c⟩, ⟨36, [], .pointer (some ⟨l, c.toNat * 1, none⟩)⟩, ⟨37, [], .int .u32 o⟩, ⟨38, [], .slice m a.1.length n⟩, ⟨39, [], i6 c⟩, ⟨40, [], pt aa ab⟩, ⟨41, [], .int .u32 j⟩, ⟨42, [], .int .u32 (bXor .u32 o j)⟩, ⟨43, [], .pointer (some ⟨l, c.toNat * 1, none⟩)⟩] bb := by (try simp only [List.length_set] at Q); (try simp only [List.length_set]); exact Q.reg
  clear Q
  have ae : Mem B [] w0 Z0 ((.row b5 [.bool a.2.neg, .slice y a.2.abs.length z] 117) :: (.own (tyInt .u32) 143 (sm l) f (h.set c.toNat (bXor .u32 o j))) :: (.row b1 [.bool d.2.neg, .slice v d.2.abs.length x] 117) :: Rr) C cc := be; clear be
  refine nl (qnI (bd _ _ (ae.cst P []) ?_)); clear bd cb
  refine nS (aW _ _ ?_); clear aW bO
  refine ibn ?_
  refine thn ?_
  refine rgB bf ae [] [] [(10, i6 (w64 (c + 1)))] ?_; intro cN ce; clear bf
  refine rd ?_
  exact ⟨⟨w64 (c + 1), h.set c.toNat (bXor .u32 o j)⟩, ba.1, ba.2, (ce.reg).anyβ _ (by kernel_rfl), ae.keep (List.Sublist.cons_cons _ (List.Sublist.cons_cons _ (List.Sublist.cons_cons _ (List.Sublist.refl _))))⟩
 have cf := O.2 X; clear O
 refine wp_exit ?_
 refine thx ?_
 refine thx ?_
 refine ibx ?_
 refine thn ?_
 refine sqH ?_; intro cg bg
 refine bt J D 2 [] [] [(44, pt b1 0), (45, .slice i h.length f)] ?_; intro cO bh; clear J
 obtain ⟨ch, bi⟩ := cf
 refine ck bh 106 #[pt b1 0, .slice i h.length f] ?_
 obtain ⟨af, ci, bj⟩ := hxq bi; clear bi
 have p := gof_fun d.2 h ch b1 v x i f _ _ _ _ _ _ A (D.perm ((pk 2 rfl).trans (((pk 1 rfl).trans (lpr.cons _)).cons _))) D.fz; rw [ci] at p; refine p.mono ?_; clear p; rintro _ cj ⟨bk, bl, bm, rfl, G, bn, hm⟩; refine ⟨_, rfl, ?_⟩; intro cP bo; have bp := hm; clear hm D bh
 replace hs4 := hs4.mono G
 replace hs8 := hs8.mono G
 replace A := A.mono G
 replace E := E.mono G
 replace W := W.mono G
 replace q := Fz.le.trans q G
 have cl : Mem B [] w0 Z0 ((.row b1 [.bool af.neg, .slice bk af.abs.length bl] 117) :: (.row b5 [.bool a.2.neg, .slice y a.2.abs.length z] 117) :: Rr) bm cj := bp; clear bp
 have cm := bj (bn.small); clear bj
 refine s1 bo 6 (pt b1 0) ?_; intro cQ cn; clear bo
 refine nlH (bg _ _ ?_); clear bg cg
 refine wp_ret ?_
 refine ra1 cn (pt b1 0) ?_
 exact ⟨(af, a.2), bk, bl, y, z, bm, rfl, cm, q, bn, E, cl.keep (List.Sublist.cons_cons _ (List.Sublist.cons_cons _ (List.Sublist.refl _)))⟩

theorem gsetbit_walk (u0 : BInt) (u2 : Int) (u3 : Int) (b1 : Nat) (ao2 : Option Addr) (cap3 : Nat) (B : Nat) (w0 : World) (Z0 : Fz) (Rr : List Res) (Z : Fz) (w : World) (hs4 : SlR (tyInt .u32) Z ao2 cap3 u0.abs) (hM0 : Mem B [] w0 Z0 ((.row b1 [.bool u0.neg, .slice ao2 u0.abs.length cap3] 117) :: Rr) Z w) (hZ : Z.on w) {K : BInt → Prop} (hp : gsetbit_vc u0 u2 u3 K) : Calls Tryz.prog 83 #[pt b1 0, pt b1 0, i6 u2, y6 u3] w fun e w' => ∃ (r : BInt) (ao1001 : Option Addr) (cap1002 : Nat) (Z' : Fz), e = .returned (pt b1 0) ∧ K r ∧ Fz.le Z Z' ∧ SlR (tyInt .u32) Z' ao1001 cap1002 r.abs ∧ Mem B [] w0 Z0 ((.row b1 [.bool r.neg, .slice ao1001 r.abs.length cap1002] 117) :: Rr) Z' w' := by
 refine enter0 Tryz.func83 rfl rfl (by kernel_rfl) ?_; intro a0 M; have i := Fz.le.refl Z
 have s := hp (hs4.small); clear hp
 refine sqB M hM0 [] [] [] ?_; intro a7 N; clear M
 refine wp_seq ?_
 refine sqB N hM0 [] [] [(12, .bool (decide (u2 < 0)))] ?_; intro bR n; clear N
 refine cd n (t := decide (u2 < 0)) (by kernel_rfl) (fun C => ?_) (fun C => ?_)
 ·
  have aX := s.1 C; clear s
  refine sqH ?_; intro aY O
  refine bt n hM0 2 [] [] [(13, pt b1 0), (14, pt b1 0)] ?_; intro bS P; clear n
  obtain ⟨aZ, Q⟩ := aX
  refine ck P 107 #[pt b1 0, pt b1 0] ?_
  obtain ⟨D, a1, R⟩ := hxq Q; clear Q
  have h := gset_fun u0 aZ b1 ao2 cap3 _ _ _ _ _ _ hs4 hM0 hM0.fz; rw [a1] at h; refine h.mono ?_; clear h; rintro _ a2 ⟨S, U, V, rfl, W, X, hm⟩; refine ⟨_, rfl, ?_⟩; intro bT Y; have aa := hm; clear hm hM0 P
  replace hs4 := hs4.mono W
  replace i := Fz.le.trans i W
  have a3 : Mem B [] w0 Z0 ((.row b1 [.bool D.neg, .slice S D.abs.length U] 117) :: Rr) V a2 := aa; clear aa
  have a4 := R (X.small); clear R
  refine s1 Y 8 (pt b1 0) ?_; intro bU a5; clear Y
  refine nlH (O _ _ ?_); clear O aY
  refine wp_ret ?_
  refine thr ?_
  refine ra1 a5 (pt b1 0) ?_
  exact ⟨D, S, U, V, rfl, a4, i, X, a3.keep (List.Sublist.cons_cons _ (List.Sublist.refl _))⟩
 have a6 := s.2 C; clear s
 refine wp_skip ?_
 refine thn ?_
 refine sqB n hM0 [0] [] [(9, i6 (w64 ((max (u0.abs.length : Int) (w64 ((w64 (u2.tdiv 32)) + 1))) + 1)))] ?_; intro bV ab; clear n
 refine sqH ?_; intro a8 ac
 refine bt ab hM0 2 [] [] [(26, pt b1 0), (27, i6 (w64 ((max (u0.abs.length : Int) (w64 ((w64 (u2.tdiv 32)) + 1))) + 1)))] ?_; intro bW ad; clear ab
 obtain ⟨a9, ae⟩ := a6
 refine ck ad 105 #[pt b1 0, i6 (w64 ((max (u0.abs.length : Int) (w64 ((w64 (u2.tdiv 32)) + 1))) + 1))] ?_
 obtain ⟨a, ba, af⟩ := hxq ae; clear ae
 have h := glow_fun u0 (w64 ((max (u0.abs.length : Int) (w64 ((w64 (u2.tdiv 32)) + 1))) + 1)) a9 b1 ao2 cap3 _ _ _ _ _ _ hs4 hM0 hM0.fz; rw [ba] at h; refine h.mono ?_; clear h; rintro _ E ⟨F, d, j, l, m, rfl, ag, v, hm⟩; refine ⟨_, rfl, ?_⟩; intro bX ah; have ai := hm; clear hm hM0 ad
 replace hs4 := hs4.mono ag
 replace i := Fz.le.trans i ag
 have o : Mem B [] w0 Z0 ((.own (tyInt .u32) 143 F d a.1) :: (.row b1 [.bool a.2.neg, .slice j a.2.abs.length l] 117) :: Rr) m E := ai; clear ai
 have aj := af (o.ownSmall 0 rfl); clear af
 have bb := aj (v.small); clear aj
 refine s1 ah 10 (.slice F a.1.length d) ?_; intro bY ak; clear ah
 refine nlH (ac _ _ ?_); clear ac a8
 refine sqH ?_; intro bc al
 refine bt ak o 3 [] [] [(29, .slice F a.1.length d), (31, i6 (w64 (u2.tdiv 32)))] ?_; intro bZ am; clear ak
 obtain ⟨bd, an⟩ := bb
 refine ixo am o 0 (T := (tyInt .u32)) (xs := a.1) (w64 (u2.tdiv 32)) bd (k := .i64) (e := 143) (bytes := 4) (nog rfl _) rfl (by kernel_rfl) rfl (by kernel_rfl) (by kernel_rfl) rfl (by kernel_rfl) ?_; intro b be bf ao; clear am
 subst bf
 have ap : Fr 57 [] [⟨0, [], pt b1 0⟩, ⟨1, [], pt b1 0⟩, ⟨2, [], i6 u2⟩, ⟨3, [], y6 u3⟩, ⟨9, [], i6 (w64 ((max (u0.abs.length : Int) (w64 ((w64 (u2.tdiv 32)) + 1))) + 1))⟩, ⟨10, [], .slice (sm b) a.1.length d⟩, ⟨12, [], .bool (decide (u2 < 0))⟩, ⟨26, [], pt b1 0⟩, ⟨27, [], i6 (w64 ((max (u0.abs.length : Int) (w64 ((w64 (u2.tdiv 32)) + 1))) + 1))⟩, ⟨28, [], .slice (sm b) a.1.length d⟩, ⟨29, [], .slice (sm b) a.1.length d⟩, ⟨31, [], i6 (w64 (u2.tdiv 32))⟩, ⟨32, [], .pointer (some ⟨b, (w64 (u2.tdiv 32)).toNat * 1, none⟩)⟩] be := ao.reg; clear ao
 have p : Mem B [] w0 Z0 ((.own (tyInt .u32) 143 (sm b) d a.1) :: (.row b1 [.bool a.2.neg, .slice j a.2.abs.length l] 117) :: Rr) m E := o; clear o
 obtain ⟨c, bg, bh⟩ := gxq an (by first | omega | (simp only [List.length_set] at *; omega)); clear an
 obtain ⟨bi, bj, bk⟩ := own_el p 0 (T := (tyInt .u32)) (xs := a.1) rfl (w64 (u2.tdiv 32)).toNat bg
 obtain rfl : bi = ([.int .u32 c] : List Value) := bj
 refine lc1 ap 33 (.int .u32 c) (bk 0 _ rfl) rfl ?_; intro b0 aq; clear ap
 refine bt aq p 3 [] [] [(36, y6 ((wu64 u2).tmod 32))] ?_; intro b2 G; clear aq
 obtain ⟨bl, bm⟩ := bh
 refine st G (.int .u32 (bShl .u32 1 ((wu64 u2).tmod 32))) (nog rfl _) rfl (by kernel_rfl) (shl_run G (g := []) (k' := .u64) rfl (by kernel_rfl) (by kernel_rfl) bl rfl) ?_; intro b3 ar; clear G
 refine s1 ar 38 (.int .u32 (bAndNot .u32 c (bShl .u32 1 ((wu64 u2).tmod 32)))) ?_; intro b4 au; clear ar
 obtain ⟨bn, bo⟩ := bm
 refine ixo au p 0 (T := (tyInt .u32)) (xs := a.1) (w64 (u2.tdiv 32)) bn (k := .i64) (e := 143) (bytes := 4) (nog rfl _) rfl (by kernel_rfl) rfl (by kernel_rfl) (by kernel_rfl) rfl (by kernel_rfl) ?_; intro bp av bq aw; clear au
 obtain rfl : b = bp := by simpa using bq
 have x : Fr 57 [] [⟨0, [], pt b1 0⟩, ⟨1, [], pt b1 0⟩, ⟨2, [], i6 u2⟩, ⟨3, [], y6 u3⟩, ⟨9, [], i6 (w64 ((max (u0.abs.length : Int) (w64 ((w64 (u2.tdiv 32)) + 1))) + 1))⟩, ⟨10, [], .slice (sm b) a.1.length d⟩, ⟨12, [], .bool (decide (u2 < 0))⟩, ⟨26, [], pt b1 0⟩, ⟨27, [], i6 (w64 ((max (u0.abs.length : Int) (w64 ((w64 (u2.tdiv 32)) + 1))) + 1))⟩, ⟨28, [], .slice (sm b) a.1.length d⟩, ⟨29, [], .slice (sm b) a.1.length d⟩, ⟨31, [], i6 (w64 (u2.tdiv 32))⟩, ⟨32, [], .pointer (some ⟨b, (w64 (u2.tdiv 32)).toNat * 1, none⟩)⟩, ⟨33, [], .int .u32 c⟩, ⟨36, [], y6 ((wu64 u2).tmod 32)⟩, ⟨37, [], .int .u32 (bShl .u32 1 ((wu64 u2).tmod 32))⟩, ⟨38, [], .int .u32 (bAndNot .u32 c (bShl .u32 1 ((wu64 u2).tmod 32)))⟩, ⟨39, [], .pointer (some ⟨b, (w64 (u2.tdiv 32)).toNat * 1, none⟩)⟩] av := aw.reg; clear aw
 have ax : Mem B [] w0 Z0 ((.own (tyInt .u32) 143 (sm b) d a.1) :: (.row b1 [.bool a.2.neg, .slice j a.2.abs.length l] 117) :: Rr) m E := p; clear p
 refine so x ax 0 (T := (tyInt .u32)) (xs := a.1) (w64 (u2.tdiv 32)).toNat (bAndNot .u32 c (bShl .u32 1 ((wu64 u2).tmod 32))) (u := .int .u32 (bAndNot .u32 c (bShl .u32 1 ((wu64 u2).tmod 32)))) (nog rfl _) rfl rfl (by kernel_rfl) rfl (by kernel_rfl) rfl (by kernel_rfl) (by first | omega | (simp only [List.length_set] at *; omega)) rfl ?_; intro H ay; clear ax
 have az : Fr 57 [] [⟨0, [], pt b1 0⟩, ⟨1, [], pt b1 0⟩, ⟨2, [], i6 u2⟩, ⟨3, [], y6 u3⟩, ⟨9, [], i6 (w64 ((max (u0.abs.length : Int) (w64 ((w64 (u2.tdiv 32)) + 1))) + 1))⟩, ⟨10, [], .slice (sm b) (a.1.set (w64 (u2.tdiv 32)).toNat (bAndNot .u32 c (bShl .u32 1 ((wu64 u2).tmod 32)))).length d⟩, ⟨12, [], .bool (decide (u2 < 0))⟩, ⟨26, [], pt b1 0⟩, ⟨27, [], i6 (w64 ((max (u0.abs.length : Int) (w64 ((w64 (u2.tdiv 32)) + 1))) + 1))⟩, ⟨28, [], .slice (sm b) (a.1.set (w64 (u2.tdiv 32)).toNat (bAndNot .u32 c (bShl .u32 1 ((wu64 u2).tmod 32)))).length d⟩, ⟨29, [], .slice (sm b) (a.1.set (w64 (u2.tdiv 32)).toNat (bAndNot .u32 c (bShl .u32 1 ((wu64 u2).tmod 32)))).length d⟩, ⟨31, [], i6 (w64 (u2.tdiv 32))⟩, ⟨32, [], .pointer (some ⟨b, (w64 (u2.tdiv 32)).toNat * 1, none⟩)⟩, ⟨33, [], .int .u32 c⟩, ⟨36, [], y6 ((wu64 u2).tmod 32)⟩, ⟨37, [], .int .u32 (bShl .u32 1 ((wu64 u2).tmod 32))⟩, ⟨38, [], .int .u32 (bAndNot .u32 c (bShl .u32 1 ((wu64 u2).tmod 32)))⟩, ⟨39, [], .pointer (some ⟨b, (w64 (u2.tdiv 32)).toNat * 1, none⟩)⟩] av := by (try simp only [List.length_set] at x); (try simp only [List.length_set]); exact x.reg
 clear x
 have y : Mem B [] w0 Z0 ((.own (tyInt .u32) 143 (sm b) d (a.1.set (w64 (u2.tdiv 32)).toNat (bAndNot .u32 c (bShl .u32 1 ((wu64 u2).tmod 32))))) :: (.row b1 [.bool a.2.neg, .slice j a.2.abs.length l] 117) :: Rr) m H := ay; clear ay
 refine nlH (al _ _ ?_); clear al bc
 refine sqH ?_; intro br aA
 refine bt az y 3 [] [] [(40, .slice (sm b) (a.1.set (w64 (u2.tdiv 32)).toNat (bAndNot .u32 c (bShl .u32 1 ((wu64 u2).tmod 32)))).length d), (42, i6 (w64 (u2.tdiv 32)))] ?_; intro b5 aB; clear az
 obtain ⟨bs, aC⟩ := bo
 refine ixo aB y 0 (T := (tyInt .u32)) (xs := a.1.set (w64 (u2.tdiv 32)).toNat (bAndNot .u32 c (bShl .u32 1 ((wu64 u2).tmod 32)))) (w64 (u2.tdiv 32)) bs (k := .i64) (e := 143) (bytes := 4) (nog rfl _) rfl (by kernel_rfl) rfl (by kernel_rfl) (by kernel_rfl) rfl (by kernel_rfl) ?_; intro bu bv bw aD; clear aB
 obtain rfl : b = bu := by simpa using bw
 have aE : Fr 57 [] [⟨0, [], pt b1 0⟩, ⟨1, [], pt b1 0⟩, ⟨2, [], i6 u2⟩, ⟨3, [], y6 u3⟩, ⟨9, [], i6 (w64 ((max (u0.abs.length : Int) (w64 ((w64 (u2.tdiv 32)) + 1))) + 1))⟩, ⟨10, [], .slice (sm b) (a.1.set (w64 (u2.tdiv 32)).toNat (bAndNot .u32 c (bShl .u32 1 ((wu64 u2).tmod 32)))).length d⟩, ⟨12, [], .bool (decide (u2 < 0))⟩, ⟨26, [], pt b1 0⟩, ⟨27, [], i6 (w64 ((max (u0.abs.length : Int) (w64 ((w64 (u2.tdiv 32)) + 1))) + 1))⟩, ⟨28, [], .slice (sm b) (a.1.set (w64 (u2.tdiv 32)).toNat (bAndNot .u32 c (bShl .u32 1 ((wu64 u2).tmod 32)))).length d⟩, ⟨29, [], .slice (sm b) (a.1.set (w64 (u2.tdiv 32)).toNat (bAndNot .u32 c (bShl .u32 1 ((wu64 u2).tmod 32)))).length d⟩, ⟨31, [], i6 (w64 (u2.tdiv 32))⟩, ⟨32, [], .pointer (some ⟨b, (w64 (u2.tdiv 32)).toNat * 1, none⟩)⟩, ⟨33, [], .int .u32 c⟩, ⟨36, [], y6 ((wu64 u2).tmod 32)⟩, ⟨37, [], .int .u32 (bShl .u32 1 ((wu64 u2).tmod 32))⟩, ⟨38, [], .int .u32 (bAndNot .u32 c (bShl .u32 1 ((wu64 u2).tmod 32)))⟩, ⟨39, [], .pointer (some ⟨b, (w64 (u2.tdiv 32)).toNat * 1, none⟩)⟩, ⟨40, [], .slice (sm b) (a.1.set (w64 (u2.tdiv 32)).toNat (bAndNot .u32 c (bShl .u32 1 ((wu64 u2).tmod 32)))).length d⟩, ⟨42, [], i6 (w64 (u2.tdiv 32))⟩, ⟨43, [], .pointer (some ⟨b, (w64 (u2.tdiv 32)).toNat * 1, none⟩)⟩] bv := aD.reg; clear aD
 have q : Mem B [] w0 Z0 ((.own (tyInt .u32) 143 (sm b) d (a.1.set (w64 (u2.tdiv 32)).toNat (bAndNot .u32 c (bShl .u32 1 ((wu64 u2).tmod 32))))) :: (.row b1 [.bool a.2.neg, .slice j a.2.abs.length l] 117) :: Rr) m H := y; clear y
 obtain ⟨f, bx, bz⟩ := gxq aC (by first | omega | (simp only [List.length_set] at *; omega)); clear aC
 obtain ⟨bA, bB, bC⟩ := own_el q 0 (T := (tyInt .u32)) (xs := a.1.set (w64 (u2.tdiv 32)).toNat (bAndNot .u32 c (bShl .u32 1 ((wu64 u2).tmod 32)))) rfl (w64 (u2.tdiv 32)).toNat bx
 obtain rfl : bA = ([.int .u32 f] : List Value) := bB
 refine lc1 aE 44 (.int .u32 f) (bC 0 _ rfl) rfl ?_; intro b6 aF; clear aE
 refine bt aF q 6 [] [] [(47, .int .u32 (wu32 (bAnd .u64 u3 1))), (50, y6 ((wu64 u2).tmod 32))] ?_; intro b7 I; clear aF
 obtain ⟨bD, bE⟩ := bz
 refine st I (.int .u32 (bShl .u32 (wu32 (bAnd .u64 u3 1)) ((wu64 u2).tmod 32))) (nog rfl _) rfl (by kernel_rfl) (shl_run I (g := []) (k' := .u64) rfl (by kernel_rfl) (by kernel_rfl) bD rfl) ?_; intro b8 aG; clear I
 refine s1 aG 52 (.int .u32 (bOr .u32 f (bShl .u32 (wu32 (bAnd .u64 u3 1)) ((wu64 u2).tmod 32)))) ?_; intro b9 aH; clear aG
 obtain ⟨bF, bG⟩ := bE
 refine ixo aH q 0 (T := (tyInt .u32)) (xs := a.1.set (w64 (u2.tdiv 32)).toNat (bAndNot .u32 c (bShl .u32 1 ((wu64 u2).tmod 32)))) (w64 (u2.tdiv 32)) bF (k := .i64) (e := 143) (bytes := 4) (nog rfl _) rfl (by kernel_rfl) rfl (by kernel_rfl) (by kernel_rfl) rfl (by kernel_rfl) ?_; intro bH aI bI aJ; clear aH
 obtain rfl : b = bH := by simpa using bI
 have z : Fr 57 [] [⟨0, [], pt b1 0⟩, ⟨1, [], pt b1 0⟩, ⟨2, [], i6 u2⟩, ⟨3, [], y6 u3⟩, ⟨9, [], i6 (w64 ((max (u0.abs.length : Int) (w64 ((w64 (u2.tdiv 32)) + 1))) + 1))⟩, ⟨10, [], .slice (sm b) (a.1.set (w64 (u2.tdiv 32)).toNat (bAndNot .u32 c (bShl .u32 1 ((wu64 u2).tmod 32)))).length d⟩, ⟨12, [], .bool (decide (u2 < 0))⟩, ⟨26, [], pt b1 0⟩, ⟨27, [], i6 (w64 ((max (u0.abs.length : Int) (w64 ((w64 (u2.tdiv 32)) + 1))) + 1))⟩, ⟨28, [], .slice (sm b) (a.1.set (w64 (u2.tdiv 32)).toNat (bAndNot .u32 c (bShl .u32 1 ((wu64 u2).tmod 32)))).length d⟩, ⟨29, [], .slice (sm b) (a.1.set (w64 (u2.tdiv 32)).toNat (bAndNot .u32 c (bShl .u32 1 ((wu64 u2).tmod 32)))).length d⟩, ⟨31, [], i6 (w64 (u2.tdiv 32))⟩, ⟨32, [], .pointer (some ⟨b, (w64 (u2.tdiv 32)).toNat * 1, none⟩)⟩, ⟨33, [], .int .u32 c⟩, ⟨36, [], y6 ((wu64 u2).tmod 32)⟩, ⟨37, [], .int .u32 (bShl .u32 1 ((wu64 u2).tmod 32))⟩, ⟨38, [], .int .u32 (bAndNot .u32 c (bShl .u32 1 ((wu64 u2).tmod 32)))⟩, ⟨39, [], .pointer (some ⟨b, (w64 (u2.tdiv 32)).toNat * 1, none⟩)⟩, ⟨40, [], .slice (sm b) (a.1.set (w64 (u2.tdiv 32)).toNat (bAndNot .u32 c (bShl .u32 1 ((wu64 u2).tmod 32)))).length d⟩, ⟨42, [], i6 (w64 (u2.tdiv 32))⟩, ⟨43, [], .pointer (some ⟨b, (w64 (u2.tdiv 32)).toNat * 1, none⟩)⟩, ⟨44, [], .int .u32 f⟩, ⟨47, [], .int .u32 (wu32 (bAnd .u64 u3 1))⟩, ⟨50, [], y6 ((wu64 u2).tmod 32)⟩, ⟨51, [], .int .u32 (bShl .u32 (wu32 (bAnd .u64 u3 1)) ((wu64 u2).tmod 32))⟩, ⟨52, [], .int .u32 (bOr .u32 f (bShl .u32 (wu32 (bAnd .u64 u3 1)) ((wu64 u2).tmod 32)))⟩, ⟨53, [], .pointer (some ⟨b, (w64 (u2.tdiv 32)).toNat * 1, none⟩)⟩] aI := aJ.reg; clear aJ
 have aK : Mem B [] w0 Z0 ((.own (tyInt .u32) 143 (sm b) d (a.1.set (w64 (u2.tdiv 32)).toNat (bAndNot .u32 c (bShl .u32 1 ((wu64 u2).tmod 32))))) :: (.row b1 [.bool a.2.neg, .slice j a.2.abs.length l] 117) :: Rr) m H := q; clear q
 refine so z aK 0 (T := (tyInt .u32)) (xs := a.1.set (w64 (u2.tdiv 32)).toNat (bAndNot .u32 c (bShl .u32 1 ((wu64 u2).tmod 32)))) (w64 (u2.tdiv 32)).toNat (bOr .u32 f (bShl .u32 (wu32 (bAnd .u64 u3 1)) ((wu64 u2).tmod 32))) (u := .int .u32 (bOr .u32 f (bShl .u32 (wu32 (bAnd .u64 u3 1)) ((wu64 u2).tmod 32)))) (nog rfl _) rfl rfl (by kernel_rfl) rfl (by kernel_rfl) rfl (by kernel_rfl) (by first | omega | (simp only [List.length_set] at *; omega)) rfl ?_; intro bJ aL; clear aK
 have aM : Fr 57 [] [⟨0, [], pt b1 0⟩, ⟨1, [], pt b1 0⟩, ⟨2, [], i6 u2⟩, ⟨3, [], y6 u3⟩, ⟨9, [], i6 (w64 ((max (u0.abs.length : Int) (w64 ((w64 (u2.tdiv 32)) + 1))) + 1))⟩, ⟨10, [], .slice (sm b) ((a.1.set (w64 (u2.tdiv 32)).toNat (bAndNot .u32 c (bShl .u32 1 ((wu64 u2).tmod 32)))).set (w64 (u2.tdiv 32)).toNat (bOr .u32 f (bShl .u32 (wu32 (bAnd .u64 u3 1)) ((wu64 u2).tmod 32)))).length d⟩, ⟨12, [], .bool (decide (u2 < 0))⟩, ⟨26, [], pt b1 0⟩, ⟨27, [], i6 (w64 ((max (u0.abs.length : Int) (w64 ((w64 (u2.tdiv 32)) + 1))) + 1))⟩, ⟨28, [], .slice (sm b) ((a.1.set (w64 (u2.tdiv 32)).toNat (bAndNot .u32 c (bShl .u32 1 ((wu64 u2).tmod 32)))).set (w64 (u2.tdiv 32)).toNat (bOr .u32 f (bShl .u32 (wu32 (bAnd .u64 u3 1)) ((wu64 u2).tmod 32)))).length d⟩, ⟨29, [], .slice (sm b) ((a.1.set (w64 (u2.tdiv 32)).toNat (bAndNot .u32 c (bShl .u32 1 ((wu64 u2).tmod 32)))).set (w64 (u2.tdiv 32)).toNat (bOr .u32 f (bShl .u32 (wu32 (bAnd .u64 u3 1)) ((wu64 u2).tmod 32)))).length d⟩, ⟨31, [], i6 (w64 (u2.tdiv 32))⟩, ⟨32, [], .pointer (some ⟨b, (w64 (u2.tdiv 32)).toNat * 1, none⟩)⟩, ⟨33, [], .int .u32 c⟩, ⟨36, [], y6 ((wu64 u2).tmod 32)⟩, ⟨37, [], .int .u32 (bShl .u32 1 ((wu64 u2).tmod 32))⟩, ⟨38, [], .int .u32 (bAndNot .u32 c (bShl .u32 1 ((wu64 u2).tmod 32)))⟩, ⟨39, [], .pointer (some ⟨b, (w64 (u2.tdiv 32)).toNat * 1, none⟩)⟩, ⟨40, [], .slice (sm b) ((a.1.set (w64 (u2.tdiv 32)).toNat (bAndNot .u32 c (bShl .u32 1 ((wu64 u2).tmod 32)))).set (w64 (u2.tdiv 32)).toNat (bOr .u32 f (bShl .u32 (wu32 (bAnd .u64 u3 1)) ((wu64 u2).tmod 32)))).length d⟩, ⟨42, [], i6 (w64 (u2.tdiv 32))⟩, ⟨43, [], .pointer (some ⟨b, (w64 (u2.tdiv 32)).toNat * 1, none⟩)⟩, ⟨44, [], .int .u32 f⟩, ⟨47, [], .int .u32 (wu32 (bAnd .u64 u3 1))⟩, ⟨50, [], y6 ((wu64 u2).tmod 32)⟩, ⟨51, [], .int .u32 (bShl .u32 (wu32 (bAnd .u64 u3 1)) ((wu64 u2).tmod 32))⟩, ⟨52, [], .int .u32 (bOr .u32 f (bShl .u32 (wu32 (bAnd .u64 u3 1)) ((wu64 u2).tmod 32)))⟩, ⟨53, [], .pointer (some ⟨b, (w64 (u2.tdiv 32)).toNat * 1, none⟩)⟩] aI := by (try simp only [List.length_set] at z); (try simp only [List.length_set]); exact z.reg
 clear z
 have A : Mem B [] w0 Z0 ((.own (tyInt .u32) 143 (sm b) d ((a.1.set (w64 (u2.tdiv 32)).toNat (bAndNot .u32 c (bShl .u32 1 ((wu64 u2).tmod 32)))).set (w64 (u2.tdiv 32)).toNat (bOr .u32 f (bShl .u32 (wu32 (bAnd .u64 u3 1)) ((wu64 u2).tmod 32))))) :: (.row b1 [.bool a.2.neg, .slice j a.2.abs.length l] 117) :: Rr) m bJ := aL; clear aL
 refine nlH (aA _ _ ?_); clear aA br
 refine sqH ?_; intro bK aN
 refine bt aM A 2 [] [] [(54, pt b1 0), (55, .slice (sm b) ((a.1.set (w64 (u2.tdiv 32)).toNat (bAndNot .u32 c (bShl .u32 1 ((wu64 u2).tmod 32)))).set (w64 (u2.tdiv 32)).toNat (bOr .u32 f (bShl .u32 (wu32 (bAnd .u64 u3 1)) ((wu64 u2).tmod 32)))).length d)] ?_; intro ca aO; clear aM
 obtain ⟨bL, aP⟩ := bG
 refine ck aO 106 #[pt b1 0, .slice (sm b) ((a.1.set (w64 (u2.tdiv 32)).toNat (bAndNot .u32 c (bShl .u32 1 ((wu64 u2).tmod 32)))).set (w64 (u2.tdiv 32)).toNat (bOr .u32 f (bShl .u32 (wu32 (bAnd .u64 u3 1)) ((wu64 u2).tmod 32)))).length d] ?_
 obtain ⟨J, bM, aQ⟩ := hxq aP; clear aP
 have h := gof_fun a.2 ((a.1.set (w64 (u2.tdiv 32)).toNat (bAndNot .u32 c (bShl .u32 1 ((wu64 u2).tmod 32)))).set (w64 (u2.tdiv 32)).toNat (bOr .u32 f (bShl .u32 (wu32 (bAnd .u64 u3 1)) ((wu64 u2).tmod 32)))) bL b1 j l (sm b) d _ _ _ _ _ _ v (A.perm ((pk 1 rfl).trans (lpr.cons _))) A.fz; rw [bM] at h; refine h.mono ?_; clear h; rintro _ bN ⟨aR, aS, aT, rfl, L, aU, hm⟩; refine ⟨_, rfl, ?_⟩; intro cb aV; have aW := hm; clear hm A aO
 replace hs4 := hs4.mono L
 replace v := v.mono L
 replace i := Fz.le.trans i L
 have bO : Mem B [] w0 Z0 ((.row b1 [.bool J.neg, .slice aR J.abs.length aS] 117) :: Rr) aT bN := aW; clear aW
 have bP := aQ (aU.small); clear aQ
 refine s1 aV 8 (pt b1 0) ?_; intro cc bQ; clear aV
 refine nlH (aN _ _ ?_); clear aN bK
 refine wp_ret ?_
 refine ra1 bQ (pt b1 0) ?_
 exact ⟨J, aR, aS, aT, rfl, bP, i, aU, bO.keep (List.Sublist.cons_cons _ (List.Sublist.refl _))⟩

theorem gnew_walk (u0 : Int)  (Z : Fz) (w : World)  (hZ : Z.on w) {K : BInt → Prop} (hp : gnew_vc u0 K) : Calls Tryz.prog 81 #[i6 u0] w fun e w' => ∃ (r : BInt) (b1001 : Nat) (ao1002 : Option Addr) (cap1003 : Nat) (Z' : Fz), e = .returned (pt b1001 0) ∧ K r ∧ SlR (tyInt .u32) Z' ao1002 cap1003 r.abs ∧ Mem w.heap.size [] w Z [.row b1001 [.bool r.neg, .slice ao1002 r.abs.length cap1003] 117] Z' w' := by
 refine enter0 Tryz.func81 rfl rfl (by kernel_rfl) ?_; intro E g; have b := Mem.start w Z hZ; have h := Fz.le.refl Z
 refine sqB g b [] [] [] ?_; intro F i; clear g
 refine sqH ?_; intro v j
 refine nw i b pb [.bool false, .slice none 0 0] 117 ?_; intro a G H k c; clear i b
 refine s1 k 4 (i6 u0) ?_; intro I l; clear k
 obtain ⟨x, m⟩ := hp
 refine ck l 104 #[pt a 0, i6 u0] ?_
 obtain ⟨d, y, n⟩ := hxq m; clear m
 have f := gseti_fun (⟨false, []⟩ : BInt) u0 x a none 0 _ _ _ _ _ _ (SlR.nil _ _) c c.fz; rw [y] at f; refine f.mono ?_; clear f; rintro _ z ⟨o, p, q, rfl, A, s, hm⟩; refine ⟨_, rfl, ?_⟩; intro J t; have u := hm; clear hm c l
 replace h := Fz.le.trans h A
 have B : Mem w.heap.size [] w Z [.row a [.bool d.neg, .slice o d.abs.length p] 117] q z := u; clear u
 have C := n (s.small); clear n
 refine s1 t 2 (pt a 0) ?_; intro L D; clear t
 refine nlH (j _ _ ?_); clear j v
 refine wp_ret ?_
 refine ra1 D (pt a 0) ?_
 exact ⟨d, a, o, p, q, rfl, C, s, B.keep (List.Sublist.cons_cons _ (List.Sublist.slnil))⟩

theorem rvalue_walk (u0 : List UInt8)  (Z : Fz) (w : World)  (hZ : Z.on w) {K : BInt → Prop} (hp : rvalue_vc u0 K) : Calls Tryz.prog 79 #[str u0] w fun e w' => ∃ (r : BInt) (b1001 : Nat) (ao1002 : Option Addr) (cap1003 : Nat) (Z' : Fz), e = .returned (pt b1001 0) ∧ K r ∧ SlR (tyInt .u32) Z' ao1002 cap1003 r.abs ∧ Mem w.heap.size [] w Z [.row b1001 [.bool r.neg, .slice ao1002 r.abs.length cap1003] 117] Z' w' := by
 refine enter0 Tryz.func79 rfl rfl (by kernel_rfl) ?_; intro O i; have d := Mem.start w Z hZ; have j := Fz.le.refl Z
 refine sqB i d [] [] [] ?_; intro P k; clear i
 refine sqH ?_; intro C l
 refine nw k d pb [.bool false, .slice none 0 0] 117 ?_; intro a Q R m b; clear k d
 refine s1 m 3 (pt a 0) ?_; intro S n; clear m
 refine nlH (l _ _ ?_); clear l C
 refine wp_seq ?_
 refine sqB n b [] [17] [(6, .bool (u0 != ([] : List UInt8)))] ?_; intro T c; clear n
 refine cd c (t := u0 != ([] : List UInt8)) (by kernel_rfl) (fun f => ?_) (fun f => ?_)
 ·
  have D := hp.1 f; clear hp
  refine rgH ?_; intro E o
  refine bt c b 2 [] [] [(7, pt a 0), (8, str u0)] ?_; intro U p; clear c
  obtain ⟨F, q⟩ := D
  refine ck p 101 #[pt a 0, str u0, i6 2] ?_
  obtain ⟨g, G, s⟩ := hxq q; clear q
  have h := gsetstr_fun (⟨false, []⟩ : BInt) u0 F a none 0 _ _ _ _ _ _ (SlR.nil _ _) b b.fz; rw [G] at h; refine h.mono ?_; clear h; rintro _ H ⟨u, v, x, rfl, I, y, hm⟩; refine ⟨_, rfl, ?_⟩; intro V z; have A := hm; clear hm b p
  replace j := Fz.le.trans j I
  have B : Mem w.heap.size [] w Z [.row a [.bool g.2.2.neg, .slice u g.2.2.abs.length v] 117] x H := A; clear A
  have J := s (y.small); clear s
  refine nlH (o _ _ ?_); clear o E
  refine thn ?_
  refine sqB z B [] [] [(2, pt a 0)] ?_; intro W L; clear z
  refine wp_ret ?_
  refine ra1 L (pt a 0) ?_
  exact ⟨g.2.2, a, u, v, x, rfl, J, y, B.keep (List.Sublist.cons_cons _ (List.Sublist.slnil))⟩
 have M := hp.2 f; clear hp
 refine wp_skip ?_
 refine thn ?_
 refine sqB c b [] [] [(2, pt a 0)] ?_; intro X N; clear c
 refine wp_ret ?_
 refine ra1 N (pt a 0) ?_
 exact ⟨(⟨false, []⟩ : BInt), a, none, 0, Z, rfl, M, (SlR.nil _ _), b.keep (List.Sublist.cons_cons _ (List.Sublist.slnil))⟩

end Go.Proofs.YtmbdcehmeiiaoaaGreatDoor
set_option linter.unusedVariables false
set_option linter.unusedSimpArgs false
namespace Go.Proofs.YtmbdcehmeiiaoaaGreatDoor
open Go.Sy Go.RowKit
theorem gxor_fun (u0 : BInt) (u2 : BInt) (hpre : (u0.neg = false ∧ wok u0.abs ∧ u0.abs.length ≤ 1000) ∧ u2.neg = false ∧ wok u2.abs ∧ u2.abs.length ≤ 1000) (b1 : Nat) (ao2 : Option Addr) (cap3 : Nat) (b5 : Nat) (ao6 : Option Addr) (cap7 : Nat) (B : Nat) (w0 : World) (Z0 : Fz) (Rr : List Res) (Z : Fz) (w : World) (hs4 : SlR (tyInt .u32) Z ao2 cap3 u0.abs) (hs8 : SlR (tyInt .u32) Z ao6 cap7 u2.abs) (hM0 : Mem B [] w0 Z0 ((.row b1 [.bool u0.neg, .slice ao2 u0.abs.length cap3] 117) :: (.row b5 [.bool u2.neg, .slice ao6 u2.abs.length cap7] 117) :: Rr) Z w) (hZ : Z.on w) : Calls Tryz.prog 82 #[pt b1 0, pt b1 0, pt b5 0] w fun e w' => ∃ (ao1001 : Option Addr) (cap1002 : Nat) (ao1004 : Option Addr) (cap1005 : Nat) (Z' : Fz), e = .returned (pt b1 0) ∧ Fz.le Z Z' ∧ SlR (tyInt .u32) Z' ao1001 cap1002 (gxorS u0 u2).1.abs ∧ SlR (tyInt .u32) Z' ao1004 cap1005 (gxorS u0 u2).2.abs ∧ Mem B [] w0 Z0 ((.row b1 [.bool (gxorS u0 u2).1.neg, .slice ao1001 (gxorS u0 u2).1.abs.length cap1002] 117) :: (.row b5 [.bool (gxorS u0 u2).2.neg, .slice ao1004 (gxorS u0 u2).2.abs.length cap1005] 117) :: Rr) Z' w' :=
  (gxor_walk u0 u2 b1 ao2 cap3 b5 ao6 cap7 B w0 Z0 Rr Z w hs4 hs8 hM0 hZ (gxor_ok u0 u2 hpre)).mono fun _ _ ⟨r, h0, h1, h2, h3, h4, he, hk, f0, f1, f2, hm⟩ => by subst hk; exact ⟨h0, h1, h2, h3, h4, he, f0, f1, f2, hm⟩

theorem gsetbit_fun (u0 : BInt) (u2 : Int) (u3 : Int) (hpre : u0.neg = false ∧ u0.abs = ws (wv u0.abs) ∧ wv u0.abs < 2 ^ u2.toNat ∧ 0 ≤ u2 ∧ u2 ≤ 30 ∧ u3 = 1) (b1 : Nat) (ao2 : Option Addr) (cap3 : Nat) (B : Nat) (w0 : World) (Z0 : Fz) (Rr : List Res) (Z : Fz) (w : World) (hs4 : SlR (tyInt .u32) Z ao2 cap3 u0.abs) (hM0 : Mem B [] w0 Z0 ((.row b1 [.bool u0.neg, .slice ao2 u0.abs.length cap3] 117) :: Rr) Z w) (hZ : Z.on w) : Calls Tryz.prog 83 #[pt b1 0, pt b1 0, i6 u2, y6 u3] w fun e w' => ∃ (ao1001 : Option Addr) (cap1002 : Nat) (Z' : Fz), e = .returned (pt b1 0) ∧ Fz.le Z Z' ∧ SlR (tyInt .u32) Z' ao1001 cap1002 (gsetbitS u0 u2 u3).abs ∧ Mem B [] w0 Z0 ((.row b1 [.bool (gsetbitS u0 u2 u3).neg, .slice ao1001 (gsetbitS u0 u2 u3).abs.length cap1002] 117) :: Rr) Z' w' :=
  (gsetbit_walk u0 u2 u3 b1 ao2 cap3 B w0 Z0 Rr Z w hs4 hM0 hZ (gsetbit_ok u0 u2 u3 hpre)).mono fun _ _ ⟨r, h0, h1, h2, he, hk, f0, f1, hm⟩ => by subst hk; exact ⟨h0, h1, h2, he, f0, f1, hm⟩

end Go.Proofs.YtmbdcehmeiiaoaaGreatDoor
namespace Go.Proofs
open Go.Shelf
def Tryz.lays105_ren : Go.Shelf.Ren := ⟨fun | 99 => 43 | 105 => 89 | 165 => 112 | 166 => 98 | 169 => 99 | 170 => 113 | 206 => 77 | 212 => 111 | 240 => 118 | 241 => 134 | 263 => 132 | 264 => 133 | 276 => 138 | 277 => 146 | n => n, fun | 37 => 22 | 46 => 75 | 51 => 143 | 53 => 93 | 70 => 131 | 72 => 133 | 75 => 135 | 76 => 136 | 80 => 73 | 109 => 148 | 127 => 155 | 146 => 164 | 148 => 166 | 164 => 169 | n => n, fun n => n⟩
theorem Tryz.lays105 : Lays.n105 Tryz.prog Tryz.lays105_ren where
  mixed := by kernel_rfl
  f99 := Tryz.func43.trans (congrArg some (by kernel_rfl))
  f105 := Tryz.func89.trans (congrArg some (by kernel_rfl))
  f165 := Tryz.func112.trans (congrArg some (by kernel_rfl))
  f166 := Tryz.func98.trans (congrArg some (by kernel_rfl))
  f169 := Tryz.func99.trans (congrArg some (by kernel_rfl))
  f170 := Tryz.func113.trans (congrArg some (by kernel_rfl))
  f206 := Tryz.func77.trans (congrArg some (by kernel_rfl))
  f212 := Tryz.func111.trans (congrArg some (by kernel_rfl))
  f240 := Tryz.func118.trans (congrArg some (by kernel_rfl))
  f241 := Tryz.func134.trans (congrArg some (by kernel_rfl))
  f263 := Tryz.func132.trans (congrArg some (by kernel_rfl))
  f264 := Tryz.func133.trans (congrArg some (by kernel_rfl))
  f276 := Tryz.func138.trans (congrArg some (by kernel_rfl))
  f277 := Tryz.func146.trans (congrArg some (by kernel_rfl))
  t0 := Tryz.underlying0
  a0 := Tryz.isAgg0
  z0 := Tryz.sizeOf0
  v0 := Tryz.zeroValue0
  t3 := Tryz.underlying3
  a3 := Tryz.isAgg3
  z3 := Tryz.sizeOf3
  v3 := Tryz.zeroValue3
  t4 := Tryz.underlying4
  a4 := Tryz.isAgg4
  z4 := Tryz.sizeOf4
  v4 := Tryz.zeroValue4
  t5 := Tryz.underlying5
  a5 := Tryz.isAgg5
  z5 := Tryz.sizeOf5
  v5 := Tryz.zeroValue5
  t9 := Tryz.underlying9
  a9 := Tryz.isAgg9
  z9 := Tryz.sizeOf9
  v9 := Tryz.zeroValue9
  t20 := Tryz.underlying20
  a20 := Tryz.isAgg20
  z20 := Tryz.sizeOf20
  v20 := Tryz.zeroValue20
  t37 := Tryz.underlying22
  a37 := Tryz.isAgg22
  z37 := Tryz.sizeOf22
  v37 := Tryz.zeroValue22
  t46 := Tryz.underlying75
  a46 := Tryz.isAgg75
  z46 := Tryz.sizeOf75
  v46 := Tryz.zeroValue75
  t51 := Tryz.underlying143
  a51 := Tryz.isAgg143
  z51 := Tryz.sizeOf143
  v51 := Tryz.zeroValue143
  t53 := Tryz.underlying93
  a53 := Tryz.isAgg93
  z53 := Tryz.sizeOf93
  v53 := Tryz.zeroValue93
  t70 := Tryz.underlying131
  a70 := Tryz.isAgg131
  z70 := Tryz.sizeOf131
  v70 := Tryz.zeroValue131
  t72 := Tryz.underlying133
  a72 := Tryz.isAgg133
  z72 := Tryz.sizeOf133
  v72 := Tryz.zeroValue133
  t75 := Tryz.underlying135
  a75 := Tryz.isAgg135
  z75 := Tryz.sizeOf135
  v75 := Tryz.zeroValue135
  t76 := Tryz.underlying136
  a76 := Tryz.isAgg136
  z76 := Tryz.sizeOf136
  v76 := Tryz.zeroValue136
  t109 := Tryz.underlying148
  a109 := Tryz.isAgg148
  z109 := Tryz.sizeOf148
  v109 := Tryz.zeroValue148
  t127 := Tryz.underlying155
  a127 := Tryz.isAgg155
  z127 := Tryz.sizeOf155
  v127 := Tryz.zeroValue155
  t146 := Tryz.underlying164
  a146 := Tryz.isAgg164
  z146 := Tryz.sizeOf164
  v146 := Tryz.zeroValue164
  t148 := Tryz.underlying166
  a148 := Tryz.isAgg166
  z148 := Tryz.sizeOf166
  v148 := Tryz.zeroValue166
  t164 := Tryz.underlying169
  a164 := Tryz.isAgg169
  z164 := Tryz.sizeOf169
  v164 := Tryz.zeroValue169
theorem Tryz.lays105X : Builder.Extra Tryz.prog Tryz.lays105_ren where
  sizeBuilder := by kernel_rfl
  liesBuilder := by kernel_rfl
  t5 := by kernel_rfl
  a5 := fun w => by kernel_rfl
  z5 := fun w => by kernel_rfl
  v5 := fun w => by kernel_rfl
  infoByte := by kernel_rfl
  cellsByte := by kernel_rfl
  sizeByte := by kernel_rfl
  neB5 := by decide

end Go.Proofs
set_option linter.unusedVariables false
set_option linter.unusedSimpArgs false
set_option maxRecDepth 100000
set_option maxHeartbeats 0
namespace Go.Proofs.YtmbdcehmeiiaoaaGreatDoor
open Go.Sy Go.RowKit
theorem srep_fun (u0 : List UInt8) (u1 : Int) (hpre : 0 ≤ u1 ∧ u1 ≤ 1000000 ∧ (u0.length : Int) * u1 ≤ 140737488355328) (Z : Fz) (w : World) (hZ : Z.on w) : Calls Tryz.prog 89 #[str u0, i6 u1] w fun e w' => e = .returned (str (srepS u0 u1)) ∧ Below w.heap.size w w' := by
  obtain ⟨m, rfl⟩ := Int.eq_ofNat_of_zero_le hpre.1
  have hl : u0.length * m ≤ 140737488355328 := by have := hpre.2.2; rw [← Int.natCast_mul] at this; omega
  have hm : m ≤ 1000000 := by have := hpre.2.1; omega
  have e : ∀ c : Nat, srepS u0 (c : Int) = Lib.repeatL u0 c := by
    intro c
    unfold srepS
    rw [Int.toNat_natCast]
    induction c with
    | zero => rfl
    | succ c ih => rw [List.replicate_succ, List.flatten_cons, ih]; rfl
  rw [e]
  exact Any.strings_Repeat Tryz.lays105 Tryz.lays105X ⟨⟨u0⟩⟩ m w (by omega) hl

theorem tz64_walk (u0 : Int)  (Z : Fz) (w : World) (hg5 : SlR t8 Z (sm 5) 64 deBruijn64) (hZ : Z.on w) {K : Int → Prop} (hp : tz64_vc u0 K) : Calls Tryz.prog 150 #[y6 u0] w fun e w' => ∃ r : Int, e = .returned (i6 r) ∧ K r ∧ Below w.heap.size w w' := by
 refine enter0 Tryz.func150 rfl rfl (by kernel_rfl) ?_; intro B f; have a := Mem.start w Z hZ; have C := Fz.le.refl Z
 refine sqB f a [] [] [] ?_; intro D g; clear f
 refine wp_seq ?_
 refine sqB g a [] [] [(4, .bool (u0 == 0))] ?_; intro E c; clear g
 refine cd c (t := u0 == 0) (by kernel_rfl) (fun d => ?_) (fun d => ?_)
 · -- yes
  have n := hp.1 d; clear hp
  refine sqB c a [] [] [(2, i6 64)] ?_; intro F o; clear c
  refine wp_ret ?_
  refine thr ?_
  refine ra1 o (i6 64) ?_
  exact ⟨64, rfl, n, a.below⟩
 · -- no
  have p := hp.2 d; clear hp
  refine wp_skip ?_
  refine thn ?_
  refine sqH ?_; intro q h
  refine bt c a 6 [] [] [(10, y6 (bShr .u64 (wu64 ((bAnd .u64 u0 (wu64 (0 - u0))) * 285870213051353865)) 58))] ?_; intro G i; clear c
  obtain ⟨s, j⟩ := p
  refine ixG i (T := t8) (xs := deBruijn64) hg5 (bShr .u64 (wu64 ((bAnd .u64 u0 (wu64 (0 - u0))) * 285870213051353865)) 58) 64 rfl s (e := 5) (k := .u64) (nog rfl _) rfl (by kernel_rfl) rfl (by kernel_rfl) (by kernel_rfl) (by kernel_rfl) ?_; intro H I u b J v x y l; clear i
  have z := j b v; clear j
  obtain rfl : u = ([y8 b] : List Value) := y
  refine z1 l a 12 x 0 (y8 b) rfl ?_; intro L m; clear l
  refine bt m a 2 [] [] [(2, i6 (w64 b))] ?_; intro M A; clear m
  refine nlH (h _ _ ?_); clear h q
  refine wp_ret ?_
  refine ra1 A (i6 (w64 b)) ?_
  exact ⟨w64 b, rfl, z, a.below⟩

theorem isp2_walk (u0 : Int)  (Z : Fz) (w : World)  (hZ : Z.on w) {K : Bool → Prop} (hp : isp2_vc u0 K) : Calls Tryz.prog 144 #[i6 u0] w fun e w' => ∃ r : Bool, e = .returned (.bool r) ∧ K r ∧ Below w.heap.size w w' := by
 refine enter0 Tryz.func144 rfl rfl (by kernel_rfl) ?_; intro f b; have a := Mem.start w Z hZ; have g := Fz.le.refl Z
 refine sqB b a [] [] [] ?_; intro h c; clear b
 refine sqB c a [] [] [(2, .bool ((bAnd .i64 u0 (w64 (u0 - 1))) == 0))] ?_; intro i d; clear c
 refine wp_ret ?_
 refine ra1 d (.bool ((bAnd .i64 u0 (w64 (u0 - 1))) == 0)) ?_
 exact ⟨(bAnd .i64 u0 (w64 (u0 - 1))) == 0, rfl, hp, a.below⟩
theorem isp2_fun (u0 : Int)  (Z : Fz) (w : World)  (hZ : Z.on w) : Calls Tryz.prog 144 #[i6 u0] w fun e w' => e = .returned (.bool (isp2 u0)) ∧ Below w.heap.size w w' :=
  (isp2_walk u0  Z w  hZ (isp2_ok u0)).mono fun _ _ ⟨r, he, hk, hb⟩ => ⟨by subst hk; exact he, hb⟩

end Go.Proofs.YtmbdcehmeiiaoaaGreatDoor
