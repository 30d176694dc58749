/- Texts put together (pure ones, or walks made by program). -/
import Derived.Test.YtmbdcehmeiiaoaaGreatDoorCore
import Derived.Test.YtmbdcehmeiiaoaaGreatDoorK1
import Derived.Test.YtmbdcehmeiiaoaaGreatDoorK2
import Derived.Test.YtmbdcehmeiiaoaaGreatDoorRows
import Derived.Shelf.Lay
import Derived.Ground.NamesProg
import Derived.Shelf.Strings.SlTrimAscii
import Derived.Shelf.Strings.Count
import Derived.Shelf.Strings.Repeat
namespace Go.Proofs
open Go.Shelf
def Tryz.lays160_ren : Go.Shelf.Ren := ⟨fun | 160 => 65 | 232 => 92 | 231 => 91 | 227 => 93 | 234 => 95 | 233 => 94 | 236 => 97 | 235 => 96 | 228 => 114 | 271 => 117 | 151 => 116 | 197 => 115 | 120 => 137 | 152 => 136 | 260 => 135 | 137 => 147 | 119 => 148 | 224 => 121 | 225 => 120 | 217 => 119 | 266 => 139 | n => n, fun | 9 => 9 | 4 => 4 | 3 => 3 | 5 => 5 | 117 => 126 | 116 => 125 | 0 => 0 | 124 => 129 | 21 => 21 | 105 => 152 | 46 => 75 | 119 => 178 | 139 => 181 | 138 => 180 | n => n, fun | 3 => 2 | 4 => 3 | n => n⟩
theorem Tryz.lays160 : Go.Proofs.Lays.n160 Tryz.prog Tryz.lays160_ren := {
  mixed := by kernel_rfl
  f119 := Tryz.func148.trans (congrArg some (by kernel_rfl))
  f120 := Tryz.func137.trans (congrArg some (by kernel_rfl))
  f137 := Tryz.func147.trans (congrArg some (by kernel_rfl))
  f151 := Tryz.func116.trans (congrArg some (by kernel_rfl))
  f152 := Tryz.func136.trans (congrArg some (by kernel_rfl))
  f160 := Tryz.func65.trans (congrArg some (by kernel_rfl))
  f197 := Tryz.func115.trans (congrArg some (by kernel_rfl))
  f217 := Tryz.func119.trans (congrArg some (by kernel_rfl))
  f224 := Tryz.func121.trans (congrArg some (by kernel_rfl))
  f225 := Tryz.func120.trans (congrArg some (by kernel_rfl))
  f227 := Tryz.func93.trans (congrArg some (by kernel_rfl))
  f228 := Tryz.func114.trans (congrArg some (by kernel_rfl))
  f231 := Tryz.func91.trans (congrArg some (by kernel_rfl))
  f232 := Tryz.func92.trans (congrArg some (by kernel_rfl))
  f233 := Tryz.func94.trans (congrArg some (by kernel_rfl))
  f234 := Tryz.func95.trans (congrArg some (by kernel_rfl))
  f235 := Tryz.func96.trans (congrArg some (by kernel_rfl))
  f236 := Tryz.func97.trans (congrArg some (by kernel_rfl))
  f260 := Tryz.func135.trans (congrArg some (by kernel_rfl))
  f266 := Tryz.func139.trans (congrArg some (by kernel_rfl))
  f271 := Tryz.func117.trans (congrArg some (by kernel_rfl))
  t0 := Tryz.underlying0
  a0 := Tryz.isAgg0
  z0 := Tryz.sizeOf0
  v0 := Tryz.zeroValue0
  t3 := Tryz.underlying3
  a3 := Tryz.isAgg3
  z3 := Tryz.sizeOf3
  v3 := Tryz.zeroValue3
  t4 := Tryz.underlying4
  a4 := Tryz.isAgg4
  z4 := Tryz.sizeOf4
  v4 := Tryz.zeroValue4
  t5 := Tryz.underlying5
  a5 := Tryz.isAgg5
  z5 := Tryz.sizeOf5
  v5 := Tryz.zeroValue5
  t9 := Tryz.underlying9
  a9 := Tryz.isAgg9
  z9 := Tryz.sizeOf9
  v9 := Tryz.zeroValue9
  t21 := Tryz.underlying21
  a21 := Tryz.isAgg21
  z21 := Tryz.sizeOf21
  v21 := Tryz.zeroValue21
  t46 := Tryz.underlying75
  a46 := Tryz.isAgg75
  z46 := Tryz.sizeOf75
  v46 := Tryz.zeroValue75
  t105 := Tryz.underlying152
  a105 := Tryz.isAgg152
  z105 := Tryz.sizeOf152
  v105 := Tryz.zeroValue152
  t116 := Tryz.underlying125
  a116 := Tryz.isAgg125
  z116 := Tryz.sizeOf125
  t117 := Tryz.underlying126
  a117 := Tryz.isAgg126
  z117 := Tryz.sizeOf126
  v117 := Tryz.zeroValue126
  t119 := Tryz.underlying178
  a119 := Tryz.isAgg178
  z119 := Tryz.sizeOf178
  t124 := Tryz.underlying129
  a124 := Tryz.isAgg129
  z124 := Tryz.sizeOf129
  v124 := Tryz.zeroValue129
  t138 := Tryz.underlying180
  a138 := Tryz.isAgg180
  z138 := Tryz.sizeOf180
  v138 := Tryz.zeroValue180
  t139 := Tryz.underlying181
  a139 := Tryz.isAgg181
  z139 := Tryz.sizeOf181
  v139 := Tryz.zeroValue181
  g3 := by kernel_rfl
  g4 := by kernel_rfl }
def Tryz.lays138_ren : Go.Shelf.Ren := ⟨fun | 138 => 42 | 195 => 74 | 218 => 75 | 143 => 76 | 219 => 100 | 217 => 119 | 225 => 120 | 224 => 121 | 267 => 122 | 266 => 139 | 314 => 140 | n => n, fun | 9 => 9 | 3 => 3 | 4 => 4 | 5 => 5 | 0 => 0 | 46 => 75 | 146 => 164 | 51 => 143 | n => n, fun | 1 => 0 | n => n⟩
theorem Tryz.lays138 : Go.Proofs.Lays.n138 Tryz.prog Tryz.lays138_ren := {
  mixed := by kernel_rfl
  f138 := Tryz.func42.trans (congrArg some (by kernel_rfl))
  f143 := Tryz.func76.trans (congrArg some (by kernel_rfl))
  f195 := Tryz.func74.trans (congrArg some (by kernel_rfl))
  f217 := Tryz.func119.trans (congrArg some (by kernel_rfl))
  f218 := Tryz.func75.trans (congrArg some (by kernel_rfl))
  f219 := Tryz.func100.trans (congrArg some (by kernel_rfl))
  f224 := Tryz.func121.trans (congrArg some (by kernel_rfl))
  f225 := Tryz.func120.trans (congrArg some (by kernel_rfl))
  f266 := Tryz.func139.trans (congrArg some (by kernel_rfl))
  f267 := Tryz.func122.trans (congrArg some (by kernel_rfl))
  f314 := Tryz.func140.trans (congrArg some (by kernel_rfl))
  t0 := Tryz.underlying0
  a0 := Tryz.isAgg0
  z0 := Tryz.sizeOf0
  v0 := Tryz.zeroValue0
  t3 := Tryz.underlying3
  a3 := Tryz.isAgg3
  z3 := Tryz.sizeOf3
  v3 := Tryz.zeroValue3
  t4 := Tryz.underlying4
  a4 := Tryz.isAgg4
  z4 := Tryz.sizeOf4
  v4 := Tryz.zeroValue4
  t5 := Tryz.underlying5
  a5 := Tryz.isAgg5
  z5 := Tryz.sizeOf5
  v5 := Tryz.zeroValue5
  t9 := Tryz.underlying9
  a9 := Tryz.isAgg9
  z9 := Tryz.sizeOf9
  v9 := Tryz.zeroValue9
  t46 := Tryz.underlying75
  a46 := Tryz.isAgg75
  z46 := Tryz.sizeOf75
  v46 := Tryz.zeroValue75
  t51 := Tryz.underlying143
  a51 := Tryz.isAgg143
  z51 := Tryz.sizeOf143
  v51 := Tryz.zeroValue143
  t146 := Tryz.underlying164
  a146 := Tryz.isAgg164
  z146 := Tryz.sizeOf164
  v146 := Tryz.zeroValue164
  g1 := by kernel_rfl }
end Go.Proofs
set_option linter.unusedVariables false
set_option linter.unusedSimpArgs false
namespace Go.Proofs.YtmbdcehmeiiaoaaGreatDoor
open Go.Sy Go.RowKit
theorem mixed : Tryz.prog.follows .mixedOrders = true := by kernel_rfl
theorem rdFrame : Rd Tryz.prog 24 tyFrame okFrame := by
  refine ⟨fun enc w fuel cs x h hw => ?_⟩
  have hu : Tryz.prog.underlying 24 = some (.struct _) := Tryz.underlying24
  have hl := rd_len hu h (m := 6) (by kernel_rfl)
  obtain ⟨j, o, p⟩ := rd_field hu h hw 0 rfl (rd_int (P := Tryz.prog) (t := 3) (k := .i64) (by kernel_rfl)) (m := 1) (by kernel_rfl) (off := 0) rfl
  have q : (cs.drop 0).take 1 = [i6 j] := o
  obtain ⟨i, r, s⟩ := rd_field hu h hw 1 rfl (rd_bool (P := Tryz.prog) (t := 4) (by kernel_rfl)) (m := 1) (by kernel_rfl) (off := 1) rfl
  have u : (cs.drop 1).take 1 = [.bool i] := r
  obtain ⟨g, v, y⟩ := rd_field hu h hw 2 rfl (rd_bool (P := Tryz.prog) (t := 4) (by kernel_rfl)) (m := 1) (by kernel_rfl) (off := 2) rfl
  have A : (cs.drop 2).take 1 = [.bool g] := v
  obtain ⟨f, B, C⟩ := rd_field hu h hw 3 rfl (rd_bool (P := Tryz.prog) (t := 4) (by kernel_rfl)) (m := 1) (by kernel_rfl) (off := 3) rfl
  have D : (cs.drop 3).take 1 = [.bool f] := B
  obtain ⟨d, E, F⟩ := rd_field hu h hw 4 rfl (rd_int (P := Tryz.prog) (t := 3) (k := .i64) (by kernel_rfl)) (m := 1) (by kernel_rfl) (off := 4) rfl
  have G : (cs.drop 4).take 1 = [i6 d] := E
  obtain ⟨a, l, H⟩ := rd_field hu h hw 5 rfl (rd_slice (P := Tryz.prog) (t := 22) (e := 5) (bytes := 1) (by kernel_rfl) (rd_int (P := Tryz.prog) (t := 5) (k := .u8) (by kernel_rfl))) (m := 1) (by kernel_rfl) (off := 5) rfl
  obtain ⟨b, c, l, I⟩ := l
  have J : (cs.drop 5).take 1 = [.slice b a.length c] := l
  have z : cs.drop 6 = [] := List.drop_eq_nil_of_le (by omega)
  have K : cs.drop 5 = [.slice b a.length c] := by rw [show cs.drop 5 = (cs.drop 5).take 1 ++ cs.drop 6 from cut_at cs 5 1, J, z]; rfl
  have L : cs.drop 4 = [i6 d, .slice b a.length c] := by rw [show cs.drop 4 = (cs.drop 4).take 1 ++ cs.drop 5 from cut_at cs 4 1, G, K]; rfl
  have M : cs.drop 3 = [.bool f, i6 d, .slice b a.length c] := by rw [show cs.drop 3 = (cs.drop 3).take 1 ++ cs.drop 4 from cut_at cs 3 1, D, L]; rfl
  have N : cs.drop 2 = [.bool g, .bool f, i6 d, .slice b a.length c] := by rw [show cs.drop 2 = (cs.drop 2).take 1 ++ cs.drop 3 from cut_at cs 2 1, A, M]; rfl
  have O : cs.drop 1 = [.bool i, .bool g, .bool f, i6 d, .slice b a.length c] := by rw [show cs.drop 1 = (cs.drop 1).take 1 ++ cs.drop 2 from cut_at cs 1 1, u, N]; rfl
  have n : cs.drop 0 = [i6 j, .bool i, .bool g, .bool f, i6 d, .slice b a.length c] := by rw [show cs.drop 0 = (cs.drop 0).take 1 ++ cs.drop 1 from cut_at cs 0 1, q, O]; rfl
  refine ⟨⟨j, i, g, f, d, a⟩, ?_, p, s, y, C, F, H⟩
  rw [List.drop_zero] at n
  exact ⟨b, c, n, I⟩

theorem rdKind : Rd Tryz.prog 100 tyKind okKind := by
  refine ⟨fun enc w fuel cs x h hw => ?_⟩
  have hu : Tryz.prog.underlying 100 = some (.struct _) := Tryz.underlying100
  have hl := rd_len hu h (m := 4) (by kernel_rfl)
  obtain ⟨d, f, g⟩ := rd_field hu h hw 0 rfl (rd_int (P := Tryz.prog) (t := 3) (k := .i64) (by kernel_rfl)) (m := 1) (by kernel_rfl) (off := 0) rfl
  have i : (cs.drop 0).take 1 = [i6 d] := f
  obtain ⟨c, j, l⟩ := rd_field hu h hw 1 rfl (rd_int (P := Tryz.prog) (t := 93) (k := .u64) (by kernel_rfl)) (m := 1) (by kernel_rfl) (off := 1) rfl
  have n : (cs.drop 1).take 1 = [y6 c] := j
  obtain ⟨b, o, p⟩ := rd_field hu h hw 2 rfl (rd_int (P := Tryz.prog) (t := 93) (k := .u64) (by kernel_rfl)) (m := 1) (by kernel_rfl) (off := 2) rfl
  have q : (cs.drop 2).take 1 = [y6 b] := o
  obtain ⟨a, r, s⟩ := rd_field hu h hw 3 rfl (rd_int (P := Tryz.prog) (t := 93) (k := .u64) (by kernel_rfl)) (m := 1) (by kernel_rfl) (off := 3) rfl
  have u : (cs.drop 3).take 1 = [y6 a] := r
  have z : cs.drop 4 = [] := List.drop_eq_nil_of_le (by omega)
  have v : cs.drop 3 = [y6 a] := by rw [show cs.drop 3 = (cs.drop 3).take 1 ++ cs.drop 4 from cut_at cs 3 1, u, z]; rfl
  have y : cs.drop 2 = [y6 b, y6 a] := by rw [show cs.drop 2 = (cs.drop 2).take 1 ++ cs.drop 3 from cut_at cs 2 1, q, v]; rfl
  have A : cs.drop 1 = [y6 c, y6 b, y6 a] := by rw [show cs.drop 1 = (cs.drop 1).take 1 ++ cs.drop 2 from cut_at cs 1 1, n, y]; rfl
  have e : cs.drop 0 = [i6 d, y6 c, y6 b, y6 a] := by rw [show cs.drop 0 = (cs.drop 0).take 1 ++ cs.drop 1 from cut_at cs 0 1, i, A]; rfl
  refine ⟨⟨d, c, b, a⟩, ?_, g, l, p, s⟩
  rw [List.drop_zero] at e
  exact e

theorem rdCounter : Rd Tryz.prog 57 tyCounter okCounter := by
  refine ⟨fun enc w fuel cs x h hw => ?_⟩
  have hu : Tryz.prog.underlying 57 = some (.struct _) := Tryz.underlying57
  have hl := rd_len hu h (m := 2) (by kernel_rfl)
  obtain ⟨b, d, e⟩ := rd_field hu h hw 0 rfl (rd_int (P := Tryz.prog) (t := 5) (k := .u8) (by kernel_rfl)) (m := 1) (by kernel_rfl) (off := 0) rfl
  have f : (cs.drop 0).take 1 = [y8 b] := d
  obtain ⟨a, g, i⟩ := rd_field hu h hw 1 rfl (rd_int (P := Tryz.prog) (t := 3) (k := .i64) (by kernel_rfl)) (m := 1) (by kernel_rfl) (off := 1) rfl
  have j : (cs.drop 1).take 1 = [i6 a] := g
  have z : cs.drop 2 = [] := List.drop_eq_nil_of_le (by omega)
  have l : cs.drop 1 = [i6 a] := by rw [show cs.drop 1 = (cs.drop 1).take 1 ++ cs.drop 2 from cut_at cs 1 1, j, z]; rfl
  have c : cs.drop 0 = [y8 b, i6 a] := by rw [show cs.drop 0 = (cs.drop 0).take 1 ++ cs.drop 1 from cut_at cs 0 1, f, l]; rfl
  refine ⟨⟨b, a⟩, ?_, e, i⟩
  rw [List.drop_zero] at c
  exact c

theorem rdReader : Rd Tryz.prog 59 tyReader okReader := by
  refine ⟨fun enc w fuel cs x h hw => ?_⟩
  have hu : Tryz.prog.underlying 59 = some (.struct _) := Tryz.underlying59
  have hl := rd_len hu h (m := 5) (by kernel_rfl)
  obtain ⟨d, f, g⟩ := rd_field hu h hw 0 rfl (rd_str (P := Tryz.prog) (t := 9) (by kernel_rfl)) (m := 1) (by kernel_rfl) (off := 0) rfl
  have i : (cs.drop 0).take 1 = [str d] := f
  obtain ⟨c, j, l⟩ := rd_field hu h hw 1 rfl (rd_int (P := Tryz.prog) (t := 3) (k := .i64) (by kernel_rfl)) (m := 1) (by kernel_rfl) (off := 1) rfl
  have o : (cs.drop 1).take 1 = [i6 c] := j
  obtain ⟨b, p, q⟩ := rd_field hu h hw 2 rfl (rd_int (P := Tryz.prog) (t := 25) (k := .i64) (by kernel_rfl)) (m := 1) (by kernel_rfl) (off := 2) rfl
  have r : (cs.drop 2).take 1 = [i6 b] := p
  obtain ⟨a, s, u⟩ := rd_field hu h hw 3 rfl rdCounter (m := 2) (by kernel_rfl) (off := 3) rfl
  have v : (cs.drop 3).take 2 = [y8 a.last, i6 a.n] := s
  have z : cs.drop 5 = [] := List.drop_eq_nil_of_le (by omega)
  have y : cs.drop 3 = [y8 a.last, i6 a.n] := by rw [show cs.drop 3 = (cs.drop 3).take 2 ++ cs.drop 5 from cut_at cs 3 2, v, z]; rfl
  have A : cs.drop 2 = [i6 b, y8 a.last, i6 a.n] := by rw [show cs.drop 2 = (cs.drop 2).take 1 ++ cs.drop 3 from cut_at cs 2 1, r, y]; rfl
  have B : cs.drop 1 = [i6 c, i6 b, y8 a.last, i6 a.n] := by rw [show cs.drop 1 = (cs.drop 1).take 1 ++ cs.drop 2 from cut_at cs 1 1, o, A]; rfl
  have e : cs.drop 0 = [str d, i6 c, i6 b, y8 a.last, i6 a.n] := by rw [show cs.drop 0 = (cs.drop 0).take 1 ++ cs.drop 1 from cut_at cs 0 1, i, B]; rfl
  refine ⟨⟨d, c, b, a⟩, ?_, g, l, q, u⟩
  rw [List.drop_zero] at e
  exact e

theorem rdFReader : Rd Tryz.prog 61 tyFReader okFReader := by
  refine ⟨fun enc w fuel cs x h hw => ?_⟩
  have hu : Tryz.prog.underlying 61 = some (.struct _) := Tryz.underlying61
  have hl := rd_len hu h (m := 11) (by kernel_rfl)
  obtain ⟨b, i, j⟩ := rd_field hu h hw 0 rfl rdReader (m := 5) (by kernel_rfl) (off := 0) rfl
  have k : (cs.drop 0).take 5 = [str b.Row, i6 b.At, i6 b.Code, y8 b.c.last, i6 b.c.n] := i
  obtain ⟨a, f, l⟩ := rd_field hu h hw 1 rfl rdFrame (m := 6) (by kernel_rfl) (off := 5) rfl
  obtain ⟨d, e, f, o⟩ := f
  have p : (cs.drop 5).take 6 = [i6 a.ID, .bool a.Long, .bool a.Fast, .bool a.Remote, i6 a.Size, .slice d a.Data.length e] := f
  have z : cs.drop 11 = [] := List.drop_eq_nil_of_le (by omega)
  have q : cs.drop 5 = [i6 a.ID, .bool a.Long, .bool a.Fast, .bool a.Remote, i6 a.Size, .slice d a.Data.length e] := by rw [show cs.drop 5 = (cs.drop 5).take 6 ++ cs.drop 11 from cut_at cs 5 6, p, z]; rfl
  have g : cs.drop 0 = [str b.Row, i6 b.At, i6 b.Code, y8 b.c.last, i6 b.c.n, i6 a.ID, .bool a.Long, .bool a.Fast, .bool a.Remote, i6 a.Size, .slice d a.Data.length e] := by rw [show cs.drop 0 = (cs.drop 0).take 5 ++ cs.drop 5 from cut_at cs 0 5, k, q]; rfl
  refine ⟨⟨b, a⟩, ?_, j, l⟩
  rw [List.drop_zero] at g
  exact ⟨d, e, g, o⟩

theorem rdSender : Rd Tryz.prog 89 tySender okSender := by
  refine ⟨fun enc w fuel cs x h hw => ?_⟩
  have hu : Tryz.prog.underlying 89 = some (.struct _) := Tryz.underlying89
  have hl := rd_len hu h (m := 2) (by kernel_rfl)
  obtain ⟨b, d, e⟩ := rd_field hu h hw 0 rfl (rd_str (P := Tryz.prog) (t := 9) (by kernel_rfl)) (m := 1) (by kernel_rfl) (off := 0) rfl
  have f : (cs.drop 0).take 1 = [str b] := d
  obtain ⟨a, g, i⟩ := rd_field hu h hw 1 rfl (rd_int (P := Tryz.prog) (t := 3) (k := .i64) (by kernel_rfl)) (m := 1) (by kernel_rfl) (off := 1) rfl
  have j : (cs.drop 1).take 1 = [i6 a] := g
  have z : cs.drop 2 = [] := List.drop_eq_nil_of_le (by omega)
  have l : cs.drop 1 = [i6 a] := by rw [show cs.drop 1 = (cs.drop 1).take 1 ++ cs.drop 2 from cut_at cs 1 1, j, z]; rfl
  have c : cs.drop 0 = [str b, i6 a] := by rw [show cs.drop 0 = (cs.drop 0).take 1 ++ cs.drop 1 from cut_at cs 0 1, f, l]; rfl
  refine ⟨⟨b, a⟩, ?_, e, i⟩
  rw [List.drop_zero] at c
  exact c

theorem trim_fun (u0 : List UInt8) (u1 : List UInt8) (hpre : u0.length ≤ 9223372036854775807 ∧ u1.length < 4294967281 ∧ u1.all (fun b => decide (b.toNat < 128)) = true) (Z : Fz) (w : World) (hZ : Z.on w) : Calls Tryz.prog 65 #[str u0, str u1] w fun e w' => e = .returned (str (trimS u0 u1)) ∧ Below w.heap.size w w' := by
  have h := Any.strings_Trim_laid Tryz.lays160 (by kernel_rfl) ⟨⟨u0⟩⟩ ⟨⟨u1⟩⟩ w (by show u0.length ≤ _; exact hpre.1) (by show u1.length < _; exact hpre.2.1) (ascii_of_all hpre.2.2)
  exact h

theorem count1_fun (u0 : List UInt8) (u1 : List UInt8) (hpre : u1.length = 1) (Z : Fz) (w : World) (hZ : Z.on w) : Calls Tryz.prog 42 #[str u0, str u1] w fun e w' => e = .returned (i6 (count1S u0 u1)) ∧ Below w.heap.size w w' := by
  obtain ⟨c, rfl⟩ : ∃ c, u1 = [c] := by
    match u1, hpre with
    | [c], _ => exact ⟨c, rfl⟩
  exact (Any.strings_Count_one Tryz.lays138 ⟨⟨u0⟩⟩ c w).mono fun _ _ ⟨h1, h2⟩ => ⟨h1, h2 ▸ Below.refl _ _⟩

end Go.Proofs.YtmbdcehmeiiaoaaGreatDoor
set_option linter.unusedVariables false
set_option linter.unusedSimpArgs false
set_option maxRecDepth 100000
set_option maxHeartbeats 0
namespace Go.Proofs.YtmbdcehmeiiaoaaGreatDoor
open Go.Sy Go.RowKit
theorem gtrim_walk (u0 : List Int) (ao1 : Option Addr) (cap2 : Nat) (Z : Fz) (w : World) (hs3 : SlR (tyInt .u32) Z ao1 cap2 u0) (hZ : Z.on w) {K : (List Int) → Prop} (hp : gtrim_vc u0 K) : Calls Tryz.prog 126 #[.slice ao1 u0.length cap2] w fun e w' => ∃ (r : (List Int)) (ao1001 : Option Addr) (cap1002 : Nat) (Z' : Fz), e = .returned (.slice ao1001 r.length cap1002) ∧ K r ∧ SlR (tyInt .u32) Z' ao1001 cap1002 r ∧ Mem w.heap.size [] w Z [] Z' w' := by
 refine enter0 Tryz.func126 rfl rfl (by kernel_rfl) ?_; intro a0 D; have l := Mem.start w Z hZ; have aE := Fz.le.refl Z
 have ab := hp (hs3.small); clear hp
 refine sqB D l [] [] [] ?_; intro a6 E; clear D
 refine sqB E l [] [] [(3, i6 (u0.length : Int))] ?_; intro F G; clear E
 refine wp_seq ?_
 refine wp_block ?_
 have H : Fr 21 [] [⟨0, [], .slice ao1 u0.length cap2⟩, ⟨3, [], i6 (u0.length : Int)⟩] F := G.region (by kernel_rfl) (by kernel_rfl); clear G
 have I : Fr 21 [] [⟨0, [], .slice ao1 u0.length cap2⟩, ⟨3, [], i6 (u0.length : Int)⟩] F := H.region (by kernel_rfl) (by kernel_rfl); clear H
 obtain ⟨ac, ad, ae, af⟩ := ab
 refine lp (ι := Int) (fun s => [⟨0, [], .slice ao1 u0.length cap2⟩, ⟨3, [], i6 s⟩]) (fun s => []) (fun s => Z) (fun s => ac s) (fun s => ad s) (u0.length : Int) ae (by exact I.region (by kernel_rfl) (by kernel_rfl)) (by exact l) ?_
 rintro a ag ah ai J L
 have M : Fr 21 [] [⟨0, [], .slice ao1 u0.length cap2⟩, ⟨3, [], i6 a⟩] ah := J; clear J I
 have f : Mem w.heap.size [] w Z [] Z ai := L; clear L l
 have m := af a ag
 refine wp_seq ?_
 refine sqH ?_; intro N n
 refine bt M f 3 [] [] [(8, .bool (decide (a > 0)))] ?_; intro aF o; clear M
 rcases Bool.eq_false_or_eq_true (decide (a > 0)) with h | h
 · -- true
  have aj := m.1 h; clear m
  have O := o.reval (d := 8) (c := []) (v := .bool (decide (a > 0))) (by kernel_rfl) (.bool true) (by rw [h]); clear o
  refine bt O f 3 [] [9, 10, 11] [(9, .slice ao1 u0.length cap2), (11, i6 (w64 (a - 1)))] ?_; intro aG u; clear O
  obtain ⟨ak, P⟩ := aj
  refine ix u (T := (tyInt .u32)) (xs := u0) hs3 (w64 (a - 1)) ak (k := .i64) (e := 143) (bytes := 4) (by rw [wanted_of u (b := true) rfl rfl (by kernel_rfl) (by kernel_rfl)]; rfl) rfl (by kernel_rfl) rfl (by kernel_rfl) (by kernel_rfl) (by kernel_rfl) ?_; intro aH aI al i aJ am an ao p; clear u
  have q := P i am; clear P
  obtain rfl : al = ([.int .u32 i] : List Value) := ao
  refine st p (.int .u32 i) (by rw [wanted_of p (b := true) rfl rfl (by kernel_rfl) (by kernel_rfl)]; rfl) rfl (by kernel_rfl) (lz p f.fz an 0 (g := []) rfl (by kernel_rfl) (by kernel_rfl) (by kernel_rfl) rfl) ?_; intro aK Q; clear p
  refine bt Q f 2 [] [14, 15] [(15, .bool (i == 0))] ?_; intro aL j; clear Q
  refine nlH (n _ _ ?_); clear n N
  refine cd j (t := i == 0) (by kernel_rfl) (fun x => ?_) (fun x => ?_)
  · -- yes
   have R := q.1 x; clear q
   refine wp_skip ?_
   refine thn ?_
   refine wp_block ?_
   refine rgB j f [] [] [(3, i6 (w64 (a - 1)))] ?_; intro aM ap; clear j
   refine ibn ?_
   refine rd ?_
   exact ⟨w64 (a - 1), R.1, R.2, (ap.region (by kernel_rfl) (by kernel_rfl)).anyβ _ (by kernel_rfl), f.keep (List.Sublist.slnil)⟩
  · -- no
   have aq := q.2 x; clear q
   refine wp_exit ?_
   refine thx ?_
   refine thx ?_
   refine ibx ?_
   refine thn ?_
   refine sqH ?_; intro ar S
   refine bt j f 2 [] [] [(18, .slice ao1 u0.length cap2), (19, i6 a)] ?_; intro aN U; clear j
   obtain ⟨au, av⟩ := aq
   refine slH U (T := (tyInt .u32)) (xs := u0) hs3 a au (k' := .i64) (e := 143) (bytes := 4) (nog rfl _) rfl (by kernel_rfl) rfl (by kernel_rfl) (by kernel_rfl) (by kernel_rfl) ?_; intro y z aO aP aw V; clear U
   refine s1 V 2 (.slice y (u0.take a.toNat).length z) ?_; intro aQ ax; clear V
   refine nlH (S _ _ ?_); clear S ar
   refine wp_ret ?_
   refine ra1 ax (.slice y (u0.take a.toNat).length z) ?_
   exact ⟨u0.take a.toNat, y, z, Z, rfl, av, aw, f.keep (List.Sublist.slnil)⟩
 · -- false
  have ay := m.2 h; clear m
  have W := o.reval (d := 8) (c := []) (v := .bool (decide (a > 0))) (by kernel_rfl) (.bool false) (by rw [h]); clear o
  refine bt W f 7 [] [9, 10, 11, 12, 13, 14, 15] [(15, .bool false)] ?_; intro aR A; clear W
  refine nlH (n _ _ ?_); clear n N
  refine cdF A (by kernel_rfl) ?_
  refine wp_exit ?_
  refine thx ?_
  refine thx ?_
  refine ibx ?_
  refine thn ?_
  refine sqH ?_; intro az X
  refine bt A f 2 [] [] [(18, .slice ao1 u0.length cap2), (19, i6 a)] ?_; intro aS Y; clear A
  obtain ⟨aA, aB⟩ := ay
  refine slH Y (T := (tyInt .u32)) (xs := u0) hs3 a aA (k' := .i64) (e := 143) (bytes := 4) (nog rfl _) rfl (by kernel_rfl) rfl (by kernel_rfl) (by kernel_rfl) (by kernel_rfl) ?_; intro B C aT aU aC aa; clear Y
  refine s1 aa 2 (.slice B (u0.take a.toNat).length C) ?_; intro aV aD; clear aa
  refine nlH (X _ _ ?_); clear X az
  refine wp_ret ?_
  refine ra1 aD (.slice B (u0.take a.toNat).length C) ?_
  exact ⟨u0.take a.toNat, B, C, Z, rfl, aB, aC, f.keep (List.Sublist.slnil)⟩

theorem glength_walk (u0 : List Int) (ao1 : Option Addr) (cap2 : Nat) (Z : Fz) (w : World) (hs3 : SlR (tyInt .u32) Z ao1 cap2 u0) (hZ : Z.on w) {K : Int → Prop} (hp : glength_vc u0 K) : Calls Tryz.prog 108 #[.slice ao1 u0.length cap2] w fun e w' => ∃ r : Int, e = .returned (i6 r) ∧ K r ∧ Below w.heap.size w w' := by
 refine enter0 Tryz.func108 rfl rfl (by kernel_rfl) ?_; intro a0 n; have a := Mem.start w Z hZ; have af := Fz.le.refl Z
 have i := hp (hs3.small); clear hp
 refine sqB n a [] [] [] ?_; intro a6 o; clear n
 refine wp_seq ?_
 refine sqB o a [] [] [(7, .bool ((u0.length : Int) == 0))] ?_; intro ag g; clear o
 refine cd g (t := (u0.length : Int) == 0) (by kernel_rfl) (fun l => ?_) (fun l => ?_)
 · -- yes
  have I := i.1 l; clear i
  refine sqB g a [] [] [(2, i6 0)] ?_; intro ah J; clear g
  refine wp_ret ?_
  refine thr ?_
  refine ra1 J (i6 0) ?_
  exact ⟨0, rfl, I, a.below⟩
 · -- no
  have L := i.2 l; clear i
  refine wp_skip ?_
  refine thn ?_
  refine sqB g a [] [] [(3, i6 0)] ?_; intro ai p; clear g
  refine wp_seq ?_
  refine sqH ?_; intro M q
  refine bt p a 4 [] [] [(8, .slice ao1 u0.length cap2), (11, i6 (w64 ((u0.length : Int) - 1)))] ?_; intro aj u; clear p
  obtain ⟨N, v⟩ := L
  refine ix u (T := (tyInt .u32)) (xs := u0) hs3 (w64 ((u0.length : Int) - 1)) N (k := .i64) (e := 143) (bytes := 4) (nog rfl _) rfl (by kernel_rfl) rfl (by kernel_rfl) (by kernel_rfl) (by kernel_rfl) ?_; intro ak al O b am P Q R x; clear u
  have S := v b P; clear v
  obtain rfl : O = ([.int .u32 b] : List Value) := R
  refine z1 x a 13 Q 0 (.int .u32 b) rfl ?_; intro an y; clear x
  refine s1 y 4 (.int .u32 b) ?_; intro z A; clear y
  refine nlH (q _ _ ?_); clear q M
  refine wp_block ?_
  have B : Fr 26 [] [⟨0, [], .slice ao1 u0.length cap2⟩, ⟨3, [], i6 0⟩, ⟨4, [], .int .u32 b⟩] z := A.region (by kernel_rfl) (by kernel_rfl); clear A
  have C : Fr 26 [] [⟨0, [], .slice ao1 u0.length cap2⟩, ⟨3, [], i6 0⟩, ⟨4, [], .int .u32 b⟩] z := B.region (by kernel_rfl) (by kernel_rfl); clear B
  obtain ⟨U, V, W, X⟩ := S
  refine lp (ι := Int × Int) (fun s => [⟨0, [], .slice ao1 u0.length cap2⟩, ⟨3, [], i6 s.1⟩, ⟨4, [], .int .u32 s.2⟩]) (fun s => []) (fun s => Z) (fun s => U s.1 s.2) (fun s => V s.1 s.2) ⟨0, b⟩ W (by exact C.region (by kernel_rfl) (by kernel_rfl)) (by exact a) ?_
  rintro ⟨c, d⟩ Y aa ab D E
  have F : Fr 26 [] [⟨0, [], .slice ao1 u0.length cap2⟩, ⟨3, [], i6 c⟩, ⟨4, [], .int .u32 d⟩] aa := D; clear D C
  have f : Mem w.heap.size [] w Z [] Z ab := E; clear E a
  have j := X c d Y
  refine wp_seq ?_
  refine sqB F f [] [] [(15, .bool (d != 0))] ?_; intro ao h; clear F
  refine cd h (t := d != 0) (by kernel_rfl) (fun m => ?_) (fun m => ?_)
  · -- yes
   have G := j.1 m; clear j
   refine wp_skip ?_
   refine thn ?_
   refine wp_seq ?_
   refine wp_block ?_
   refine rgB h f [] [] [(3, i6 (w64 (c + 1)))] ?_; intro ap H; clear h
   refine ibn ?_
   refine thn ?_
   refine rgB H f [] [] [(4, .int .u32 (bShr .u32 d 1))] ?_; intro aq ac; clear H
   refine rd ?_
   exact ⟨⟨w64 (c + 1), bShr .u32 d 1⟩, G.1, G.2, (ac.region (by kernel_rfl) (by kernel_rfl)).anyβ _ (by kernel_rfl), f.keep (List.Sublist.slnil)⟩
  · -- no
   have ad := j.2 m; clear j
   refine wp_exit ?_
   refine thx ?_
   refine thx ?_
   refine ibx ?_
   refine thn ?_
   refine sqB h f [] [] [(2, i6 (w64 ((w64 ((w64 ((u0.length : Int) - 1)) * 32)) + c)))] ?_; intro ar ae; clear h
   refine wp_ret ?_
   refine ra1 ae (i6 (w64 ((w64 ((w64 ((u0.length : Int) - 1)) * 32)) + c))) ?_
   exact ⟨w64 ((w64 ((w64 ((u0.length : Int) - 1)) * 32)) + c), rfl, ad, f.below⟩

end Go.Proofs.YtmbdcehmeiiaoaaGreatDoor
set_option linter.unusedVariables false
set_option linter.unusedSimpArgs false
set_option maxRecDepth 100000
set_option maxHeartbeats 0
namespace Go.Proofs.YtmbdcehmeiiaoaaGreatDoor
open Go.Sy Go.RowKit
theorem gtrim_fun (u0 : List Int) (ao1 : Option Addr) (cap2 : Nat) (Z : Fz) (w : World) (hs3 : SlR (tyInt .u32) Z ao1 cap2 u0) (hZ : Z.on w) : Calls Tryz.prog 126 #[.slice ao1 u0.length cap2] w fun e w' => ∃ (ao1001 : Option Addr) (cap1002 : Nat) (Z' : Fz), e = .returned (.slice ao1001 (gtrimS u0).length cap1002) ∧ SlR (tyInt .u32) Z' ao1001 cap1002 (gtrimS u0) ∧ Mem w.heap.size [] w Z [] Z' w' :=
  (gtrim_walk u0 ao1 cap2 Z w hs3 hZ (gtrim_ok u0)).mono fun _ _ ⟨r, h0, h1, h2, he, hk, f0, hm⟩ => by subst hk; exact ⟨h0, h1, h2, he, f0, hm⟩

theorem glength_fun (u0 : List Int) (hpre : u0 = ws (wv u0) ∧ u0.length ≤ 1000000) (ao1 : Option Addr) (cap2 : Nat) (Z : Fz) (w : World) (hs3 : SlR (tyInt .u32) Z ao1 cap2 u0) (hZ : Z.on w) : Calls Tryz.prog 108 #[.slice ao1 u0.length cap2] w fun e w' => e = .returned (i6 (glengthS u0)) ∧ Below w.heap.size w w' :=
  (glength_walk u0 ao1 cap2 Z w hs3 hZ (glength_ok u0 hpre)).mono fun _ _ ⟨r, he, hk, hb⟩ => ⟨by subst hk; exact he, hb⟩

theorem gtwin_walk (u0 : List Int) (ao1 : Option Addr) (cap2 : Nat) (Z : Fz) (w : World) (hs3 : SlR (tyInt .u32) Z ao1 cap2 u0) (hZ : Z.on w) {K : (List Int) → Prop} (hp : gtwin_vc u0 K) : Calls Tryz.prog 127 #[.slice ao1 u0.length cap2] w fun e w' => ∃ (r : (List Int)) (ao1001 : Option Addr) (cap1002 : Nat) (Z' : Fz), e = .returned (.slice ao1001 r.length cap1002) ∧ K r ∧ Mem w.heap.size [] w Z [.own (tyInt .u32) 143 ao1001 cap1002 r] Z' w' := by
 refine enter0 Tryz.func127 rfl rfl (by kernel_rfl) ?_; intro u f; have c := Mem.start w Z hZ; have v := Fz.le.refl Z
 have l := hp (hs3.small); clear hp
 refine sqB f c [] [] [] ?_; intro x g; clear f
 refine sqH ?_; intro m h
 refine s1 g 3 (.slice ao1 u0.length cap2) ?_; intro y i; clear g
 have d : Mem w.heap.size [] w Z [.own (tyInt .u32) 143 none 0 ([] : List Int)] Z w := c.addNil (tyInt .u32) 143 (by decide); clear c
 obtain ⟨n, o⟩ := l
 refine ap i d 0 (T := (tyInt .u32)) (xs := ([] : List Int)) (ys := u0) (ao := none) (cap := 0) (ao2 := ao1) (cap2 := cap2) (t := 115) (e := 143) (bytes := 4) (nog rfl _) rfl (by kernel_rfl) rfl (by kernel_rfl) (by kernel_rfl) (by kernel_rfl) rfl (Src.fz (by decide) d.fz hs3) n ?_; intro a b z p A j k; clear i d
 have q : Mem w.heap.size [] w Z [.own (tyInt .u32) 143 a b (([] : List Int) ++ u0)] Z p := k; clear k
 refine s1 j 2 (.slice a (([] : List Int) ++ u0).length b) ?_; intro B s; clear j
 refine nlH (h _ _ ?_); clear h m
 refine wp_ret ?_
 refine ra1 s (.slice a (([] : List Int) ++ u0).length b) ?_
 exact ⟨([] : List Int) ++ u0, a, b, Z, rfl, o, q.keep (List.Sublist.cons_cons _ (List.Sublist.slnil))⟩

theorem gwords_walk (u0 : Int)  (Z : Fz) (w : World)  (hZ : Z.on w) {K : (List Int) → Prop} (hp : gwords_vc u0 K) : Calls Tryz.prog 125 #[y6 u0] w fun e w' => ∃ (r : (List Int)) (ao1001 : Option Addr) (cap1002 : Nat) (Z' : Fz), e = .returned (.slice ao1001 r.length cap1002) ∧ K r ∧ SlR (tyInt .u32) Z' ao1001 cap1002 r ∧ Mem w.heap.size [] w Z [] Z' w' := by
 refine enter0 Tryz.func125 rfl rfl (by kernel_rfl) ?_; intro H j; have a := Mem.start w Z hZ; have c := Fz.le.refl Z
 refine sqB j a [] [] [] ?_; intro I k; clear j
 refine sqH ?_; intro z l
 refine bt k a 5 [] [] [(4, .int .u32 (wu32 u0)), (7, .int .u32 (wu32 (bShr .u64 u0 32)))] ?_; intro J m; clear k
 refine nw m a (fun b => .slice (sm b) 2 2) [.int .u32 (wu32 u0), .int .u32 (wu32 (bShr .u64 u0 32))] 143 ?_; intro d L n o p; clear m a
 have A : Mem w.heap.size [] w Z [.own (tyInt .u32) 143 (sm d) 2 ([wu32 u0, wu32 (bShr .u64 u0 32)] : List Int)] Z n := p.rowOwn (T := (tyInt .u32)) (xs := ([wu32 u0, wu32 (bShr .u64 u0 32)] : List Int)) 0 rfl (by decide) (by show 2 ≤ lim; decide) ((RepAll.one (T := (tyInt .u32)) (x := wu32 u0) rfl).append (RepAll.one (T := (tyInt .u32)) (x := wu32 (bShr .u64 u0 32)) rfl)); clear p
 obtain ⟨B, C, q, f⟩ := A.freeze 0 rfl
 replace c := Fz.le.trans c C
 have g : Mem w.heap.size [] w Z [] B n := q; clear q
 refine ck o 126 #[.slice (sm d) ([wu32 u0, wu32 (bShr .u64 u0 32)] : List Int).length 2] ?_
 refine (gtrim_fun ([wu32 u0, wu32 (bShr .u64 u0 32)] : List Int) (sm d) 2 _ _ f g.fz).mono ?_; rintro _ D ⟨h, i, s, rfl, t, hm⟩; refine ⟨_, rfl, ?_⟩; intro M u; have v := g.callZ hm; have y := hm.ext.le; clear hm g o
 replace f := f.mono y
 replace c := Fz.le.trans c y
 have E : Mem w.heap.size [] w Z [] s D := v; clear v
 have F := hp (t.small); clear hp
 refine s1 u 2 (.slice h (gtrimS ([wu32 u0, wu32 (bShr .u64 u0 32)] : List Int)).length i) ?_; intro N G; clear u
 refine nlH (l _ _ ?_); clear l z
 refine wp_ret ?_
 refine ra1 G (.slice h (gtrimS ([wu32 u0, wu32 (bShr .u64 u0 32)] : List Int)).length i) ?_
 exact ⟨(gtrimS ([wu32 u0, wu32 (bShr .u64 u0 32)] : List Int)), h, i, s, rfl, F, t, E.keep (List.Sublist.slnil)⟩

theorem gadd_walk (u0 : List Int) (u1 : List Int) (ao1 : Option Addr) (cap2 : Nat) (ao4 : Option Addr) (cap5 : Nat) (Z : Fz) (w : World) (hs3 : SlR (tyInt .u32) Z ao1 cap2 u0) (hs6 : SlR (tyInt .u32) Z ao4 cap5 u1) (hZ : Z.on w) {K : (List Int) → Prop} (hp : gadd_vc u0 u1 K) : Calls Tryz.prog 123 #[.slice ao1 u0.length cap2, .slice ao4 u1.length cap5] w fun e w' => ∃ (r : (List Int)) (ao1001 : Option Addr) (cap1002 : Nat) (Z' : Fz), e = .returned (.slice ao1001 r.length cap1002) ∧ K r ∧ SlR (tyInt .u32) Z' ao1001 cap1002 r ∧ Mem w.heap.size [] w Z [] Z' w' := by
 refine enter0 Tryz.func123 rfl rfl (by kernel_rfl) ?_; intro a0 am; have o := Mem.start w Z hZ; have p := Fz.le.refl Z
 have an := hp (hs3.small); clear hp
 have B := an (hs6.small); clear an
 refine sqB am o [] [] [] ?_; intro d2 ao; clear am
 refine wp_seq ?_
 refine sqB ao o [] [] [(12, .bool (decide ((u0.length : Int) < (u1.length : Int))))] ?_; intro d3 q; clear ao
 refine cd q (t := decide ((u0.length : Int) < (u1.length : Int))) (by kernel_rfl) (fun R => ?_) (fun R => ?_)
 ·
  have cb := B.1 R; clear B
  refine rgB q o [] [] [(0, .slice ao4 u1.length cap5), (1, .slice ao1 u0.length cap2)] ?_; intro d4 ap; clear q
  refine thn ?_
  refine sqH ?_; intro cc aq
  refine bt ap o 3 [] [] [(17, i6 (w64 ((u1.length : Int) + 1)))] ?_; intro d5 ar; clear ap
  obtain ⟨d6, ce⟩ := cb
  refine mks ar o (T := (tyInt .u32)) (w64 ((u1.length : Int) + 1)) (w64 ((u1.length : Int) + 1)) (k := .i64) (k' := .i64) (e := 143) (bytes := 4) (zs := [.int .u32 0]) (z := 0) (by simp only [lim]; omega) (nog rfl _) rfl (by kernel_rfl) rfl (by kernel_rfl) (by kernel_rfl) (by kernel_rfl) (by kernel_rfl) rfl ?_; intro f d7 cf au av; clear ar o
  have C : Mem w.heap.size [] w Z [.own (tyInt .u32) 143 (sm f) (w64 ((u1.length : Int) + 1)).toNat (List.replicate (w64 ((u1.length : Int) + 1)).toNat (0 : Int))] Z cf := av; clear av
  refine s1 au 5 (.slice (sm f) (List.replicate (w64 ((u1.length : Int) + 1)).toNat (0 : Int)).length (w64 ((u1.length : Int) + 1)).toNat) ?_; intro d8 aw; clear au
  refine nlH (aq _ _ ?_); clear aq cc
  refine sqB aw C [] [] [(6, y6 0)] ?_; intro d9 ax; clear aw
  refine wp_seq ?_
  refine sqB ax C [] [] [(7, i6 0)] ?_; intro ay az; clear ax
  refine wp_block ?_
  have aA : Fr 58 [] [⟨0, [], .slice ao4 u1.length cap5⟩, ⟨1, [], .slice ao1 u0.length cap2⟩, ⟨5, [], .slice (sm f) (List.replicate (w64 ((u1.length : Int) + 1)).toNat (0 : Int)).length (w64 ((u1.length : Int) + 1)).toNat⟩, ⟨6, [], y6 0⟩, ⟨7, [], i6 0⟩] ay := az.reg; clear az
  have aB : Fr 58 [] [⟨0, [], .slice ao4 u1.length cap5⟩, ⟨1, [], .slice ao1 u0.length cap2⟩, ⟨5, [], .slice (sm f) (List.replicate (w64 ((u1.length : Int) + 1)).toNat (0 : Int)).length (w64 ((u1.length : Int) + 1)).toNat⟩, ⟨6, [], y6 0⟩, ⟨7, [], i6 0⟩] ay := aA.reg; clear aA
  obtain ⟨cg, ch, ci, cj⟩ := ce
  refine lp (ι := Int × Int × (List Int)) (fun s => [⟨0, [], .slice ao4 u1.length cap5⟩, ⟨1, [], .slice ao1 u0.length cap2⟩, ⟨5, [], .slice (sm f) s.2.2.length (w64 ((u1.length : Int) + 1)).toNat⟩, ⟨6, [], y6 s.1⟩, ⟨7, [], i6 s.2.1⟩]) (fun s => [.own (tyInt .u32) 143 (sm f) (w64 ((u1.length : Int) + 1)).toNat s.2.2]) (fun s => Z) (fun s => cg s.1 s.2.1 s.2.2) (fun s => ch s.1 s.2.1 s.2.2) ⟨0, 0, (List.replicate (w64 ((u1.length : Int) + 1)).toNat (0 : Int))⟩ ci (by exact aB.reg) (by exact C) ?_
  rintro ⟨a, b, g⟩ cl cm cn aC aD
  have aE : Fr 58 [] [⟨0, [], .slice ao4 u1.length cap5⟩, ⟨1, [], .slice ao1 u0.length cap2⟩, ⟨5, [], .slice (sm f) g.length (w64 ((u1.length : Int) + 1)).toNat⟩, ⟨6, [], y6 a⟩, ⟨7, [], i6 b⟩] cm := aC; clear aC aB
  have j : Mem w.heap.size [] w Z [.own (tyInt .u32) 143 (sm f) (w64 ((u1.length : Int) + 1)).toNat g] Z cn := aD; clear aD C
  have D := cj a b g cl
  refine wp_seq ?_
  refine sqB aE j [] [] [(22, .bool (decide (b < (u1.length : Int))))] ?_; intro ea v; clear aE
  refine cd v (t := decide (b < (u1.length : Int))) (by kernel_rfl) (fun S => ?_) (fun S => ?_)
  ·
   have co := D.1 S; clear D
   refine wp_skip ?_
   refine thn ?_
   refine wp_seq ?_
   refine wp_block ?_
   refine sqH ?_; intro cp aF
   refine bt v j 3 [] [] [(25, y6 a), (26, .slice ao4 u1.length cap5), (27, i6 b)] ?_; intro eb aG; clear v
   obtain ⟨cq, aH⟩ := co
   refine ix aG (T := (tyInt .u32)) (xs := u1) hs6 b cq (k := .i64) (e := 143) (bytes := 4) (nog rfl _) rfl (by kernel_rfl) rfl (by kernel_rfl) (by kernel_rfl) (by kernel_rfl) ?_; intro aI aJ cr c ec cs ct cu aK; clear aG
   have E := aH c cs; clear aH
   obtain rfl : cr = ([.int .u32 c] : List Value) := cu
   refine z1 aK j 29 ct 0 (.int .u32 c) rfl ?_; intro ed aL; clear aK
   refine bt aL j 3 [] [] [(6, y6 (wu64 (a + (wu64 c))))] ?_; intro ee aM; clear aL
   refine nlH (aF _ _ ?_); clear aF cp
   refine wp_seq ?_
   refine sqB aM j [] [] [(35, .bool (decide (b < (u0.length : Int))))] ?_; intro ef x; clear aM
   refine cd x (t := decide (b < (u0.length : Int))) (by kernel_rfl) (fun U => ?_) (fun U => ?_)
   ·
    have cv := E.1 U; clear E
    refine rgH ?_; intro cw aN
    refine bt x j 3 [] [] [(36, y6 (wu64 (a + (wu64 c)))), (37, .slice ao1 u0.length cap2), (38, i6 b)] ?_; intro eg aO; clear x
    obtain ⟨cx, aP⟩ := cv
    refine ix aO (T := (tyInt .u32)) (xs := u0) hs3 b cx (k := .i64) (e := 143) (bytes := 4) (nog rfl _) rfl (by kernel_rfl) rfl (by kernel_rfl) (by kernel_rfl) (by kernel_rfl) ?_; intro cy cz cA m eh cB cC cD aQ; clear aO
    have cE := aP m cB; clear aP
    obtain rfl : cA = ([.int .u32 m] : List Value) := cD
    refine z1 aQ j 40 cC 0 (.int .u32 m) rfl ?_; intro ei aR; clear aQ
    refine bt aR j 3 [] [] [(6, y6 (wu64 ((wu64 (a + (wu64 c))) + (wu64 m))))] ?_; intro ej aS; clear aR
    refine nlH (aN _ _ ?_); clear aN cw
    refine thn ?_
    refine sqH ?_; intro cF aT
    refine bt aS j 4 [] [] [(43, .slice (sm f) g.length (w64 ((u1.length : Int) + 1)).toNat), (44, i6 b), (46, .int .u32 (wu32 (wu64 ((wu64 (a + (wu64 c))) + (wu64 m)))))] ?_; intro ek aU; clear aS
    obtain ⟨cG, aV⟩ := cE
    refine ixo aU j 0 (T := (tyInt .u32)) (xs := g) b cG (k := .i64) (e := 143) (bytes := 4) (nog rfl _) rfl (by kernel_rfl) rfl (by kernel_rfl) (by kernel_rfl) rfl (by kernel_rfl) ?_; intro cH cI cJ F; clear aU
    obtain rfl : f = cH := by simpa using cJ
    refine so F j 0 (T := (tyInt .u32)) (xs := g) b.toNat (wu32 (wu64 ((wu64 (a + (wu64 c))) + (wu64 m)))) (u := .int .u32 (wu32 (wu64 ((wu64 (a + (wu64 c))) + (wu64 m))))) (nog rfl _) rfl rfl (by kernel_rfl) rfl (by kernel_rfl) rfl (by kernel_rfl) (by first | omega | (simp only [List.length_set] at *; omega)) rfl ?_; intro cK aW; clear j
    have aX : Fr 58 [] [⟨0, [], .slice ao4 u1.length cap5⟩, ⟨1, [], .slice ao1 u0.length cap2⟩, ⟨5, [], .slice (sm f) (g.set b.toNat (wu32 (wu64 ((wu64 (a + (wu64 c))) + (wu64 m))))).length (w64 ((u1.length : Int) + 1)).toNat⟩, ⟨6, [], y6 (wu64 ((wu64 (a + (wu64 c))) + (wu64 m)))⟩, ⟨7, [], i6 b⟩, ⟨22, [], .bool (decide (b < (u1.length : Int)))⟩, ⟨25, [], y6 a⟩, ⟨26, [], .slice ao4 u1.length cap5⟩, ⟨27, [], i6 b⟩, ⟨28, [], pt aI aJ⟩, ⟨29, [], .int .u32 c⟩, ⟨35, [], .bool (decide (b < (u0.length : Int)))⟩, ⟨36, [], y6 (wu64 (a + (wu64 c)))⟩, ⟨37, [], .slice ao1 u0.length cap2⟩, ⟨38, [], i6 b⟩, ⟨39, [], pt cy cz⟩, ⟨40, [], .int .u32 m⟩, ⟨43, [], .slice (sm f) (g.set b.toNat (wu32 (wu64 ((wu64 (a + (wu64 c))) + (wu64 m))))).length (w64 ((u1.length : Int) + 1)).toNat⟩, ⟨44, [], i6 b⟩, ⟨46, [], .int .u32 (wu32 (wu64 ((wu64 (a + (wu64 c))) + (wu64 m))))⟩, ⟨47, [], .pointer (some ⟨f, b.toNat * 1, none⟩)⟩] cI := by (try simp only [List.length_set] at F); (try simp only [List.length_set]); exact F.reg
    clear F
    have V : Mem w.heap.size [] w Z [.own (tyInt .u32) 143 (sm f) (w64 ((u1.length : Int) + 1)).toNat (g.set b.toNat (wu32 (wu64 ((wu64 (a + (wu64 c))) + (wu64 m)))))] Z cK := aW; clear aW
    refine nlH (aT _ _ ?_); clear aT cF
    refine rgB aX V [] [] [(6, y6 (bShr .u64 (wu64 ((wu64 (a + (wu64 c))) + (wu64 m))) 32))] ?_; intro el aY; clear aX
    refine ibn ?_
    refine thn ?_
    refine rgB aY V [] [] [(7, i6 (w64 (b + 1)))] ?_; intro em cL; clear aY
    refine rd ?_
    exact ⟨⟨bShr .u64 (wu64 ((wu64 (a + (wu64 c))) + (wu64 m))) 32, w64 (b + 1), g.set b.toNat (wu32 (wu64 ((wu64 (a + (wu64 c))) + (wu64 m))))⟩, aV.1, aV.2, (cL.reg).anyβ _ (by kernel_rfl), V.keep (List.Sublist.cons_cons _ (List.Sublist.slnil))⟩
   have cM := E.2 U; clear E
   refine wp_skip ?_
   refine thn ?_
   refine sqH ?_; intro cN aZ
   refine bt x j 4 [] [] [(43, .slice (sm f) g.length (w64 ((u1.length : Int) + 1)).toNat), (44, i6 b), (46, .int .u32 (wu32 (wu64 (a + (wu64 c)))))] ?_; intro en a1; clear x
   obtain ⟨cO, a2⟩ := cM
   refine ixo a1 j 0 (T := (tyInt .u32)) (xs := g) b cO (k := .i64) (e := 143) (bytes := 4) (nog rfl _) rfl (by kernel_rfl) rfl (by kernel_rfl) (by kernel_rfl) rfl (by kernel_rfl) ?_; intro cP cQ cR G; clear a1
   obtain rfl : f = cP := by simpa using cR
   refine so G j 0 (T := (tyInt .u32)) (xs := g) b.toNat (wu32 (wu64 (a + (wu64 c)))) (u := .int .u32 (wu32 (wu64 (a + (wu64 c))))) (nog rfl _) rfl rfl (by kernel_rfl) rfl (by kernel_rfl) rfl (by kernel_rfl) (by first | omega | (simp only [List.length_set] at *; omega)) rfl ?_; intro cS a3; clear j
   have a4 : Fr 58 [] [⟨0, [], .slice ao4 u1.length cap5⟩, ⟨1, [], .slice ao1 u0.length cap2⟩, ⟨5, [], .slice (sm f) (g.set b.toNat (wu32 (wu64 (a + (wu64 c))))).length (w64 ((u1.length : Int) + 1)).toNat⟩, ⟨6, [], y6 (wu64 (a + (wu64 c)))⟩, ⟨7, [], i6 b⟩, ⟨22, [], .bool (decide (b < (u1.length : Int)))⟩, ⟨25, [], y6 a⟩, ⟨26, [], .slice ao4 u1.length cap5⟩, ⟨27, [], i6 b⟩, ⟨28, [], pt aI aJ⟩, ⟨29, [], .int .u32 c⟩, ⟨35, [], .bool (decide (b < (u0.length : Int)))⟩, ⟨43, [], .slice (sm f) (g.set b.toNat (wu32 (wu64 (a + (wu64 c))))).length (w64 ((u1.length : Int) + 1)).toNat⟩, ⟨44, [], i6 b⟩, ⟨46, [], .int .u32 (wu32 (wu64 (a + (wu64 c))))⟩, ⟨47, [], .pointer (some ⟨f, b.toNat * 1, none⟩)⟩] cQ := by (try simp only [List.length_set] at G); (try simp only [List.length_set]); exact G.reg
   clear G
   have W : Mem w.heap.size [] w Z [.own (tyInt .u32) 143 (sm f) (w64 ((u1.length : Int) + 1)).toNat (g.set b.toNat (wu32 (wu64 (a + (wu64 c)))))] Z cS := a3; clear a3
   refine nlH (aZ _ _ ?_); clear aZ cN
   refine rgB a4 W [] [] [(6, y6 (bShr .u64 (wu64 (a + (wu64 c))) 32))] ?_; intro eo a5; clear a4
   refine ibn ?_
   refine thn ?_
   refine rgB a5 W [] [] [(7, i6 (w64 (b + 1)))] ?_; intro ep cT; clear a5
   refine rd ?_
   exact ⟨⟨bShr .u64 (wu64 (a + (wu64 c))) 32, w64 (b + 1), g.set b.toNat (wu32 (wu64 (a + (wu64 c))))⟩, a2.1, a2.2, (cT.reg).anyβ _ (by kernel_rfl), W.keep (List.Sublist.cons_cons _ (List.Sublist.slnil))⟩
  have cU := D.2 S; clear D
  refine wp_exit ?_
  refine thx ?_
  refine thx ?_
  refine ibx ?_
  refine thn ?_
  refine sqH ?_; intro cV a6
  refine bt v j 5 [] [] [(50, .slice (sm f) g.length (w64 ((u1.length : Int) + 1)).toNat), (52, i6 (u1.length : Int)), (54, .int .u32 (wu32 a))] ?_; intro eq a7; clear v
  obtain ⟨cW, a8⟩ := cU
  refine ixo a7 j 0 (T := (tyInt .u32)) (xs := g) (u1.length : Int) cW (k := .i64) (e := 143) (bytes := 4) (nog rfl _) rfl (by kernel_rfl) rfl (by kernel_rfl) (by kernel_rfl) rfl (by kernel_rfl) ?_; intro cX cY cZ H; clear a7
  obtain rfl : f = cX := by simpa using cZ
  refine so H j 0 (T := (tyInt .u32)) (xs := g) (u1.length : Int).toNat (wu32 a) (u := .int .u32 (wu32 a)) (nog rfl _) rfl rfl (by kernel_rfl) rfl (by kernel_rfl) rfl (by kernel_rfl) (by first | omega | (simp only [List.length_set] at *; omega)) rfl ?_; intro a9 ba; clear j
  have bb : Fr 58 [] [⟨0, [], .slice ao4 u1.length cap5⟩, ⟨1, [], .slice ao1 u0.length cap2⟩, ⟨5, [], .slice (sm f) (g.set (u1.length : Int).toNat (wu32 a)).length (w64 ((u1.length : Int) + 1)).toNat⟩, ⟨6, [], y6 a⟩, ⟨7, [], i6 b⟩, ⟨22, [], .bool (decide (b < (u1.length : Int)))⟩, ⟨50, [], .slice (sm f) (g.set (u1.length : Int).toNat (wu32 a)).length (w64 ((u1.length : Int) + 1)).toNat⟩, ⟨52, [], i6 (u1.length : Int)⟩, ⟨54, [], .int .u32 (wu32 a)⟩, ⟨55, [], .pointer (some ⟨f, (u1.length : Int).toNat * 1, none⟩)⟩] cY := by (try simp only [List.length_set] at H); (try simp only [List.length_set]); exact H.reg
  clear H
  have c0 : Mem w.heap.size [] w Z [.own (tyInt .u32) 143 (sm f) (w64 ((u1.length : Int) + 1)).toNat (g.set (u1.length : Int).toNat (wu32 a))] Z a9 := ba; clear ba
  refine nlH (a6 _ _ ?_); clear a6 cV
  refine sqH ?_; intro c1 bc
  refine s1 bb 56 (.slice (sm f) (g.set (u1.length : Int).toNat (wu32 a)).length (w64 ((u1.length : Int) + 1)).toNat) ?_; intro er bd; clear bb
  obtain ⟨c2, X, be, Y⟩ := c0.freeze 0 rfl
  replace hs3 := hs3.mono X
  replace hs6 := hs6.mono X
  replace p := Fz.le.trans p X
  have aa : Mem w.heap.size [] w Z [] c2 a9 := be; clear be
  refine ck bd 126 #[.slice (sm f) (g.set (u1.length : Int).toNat (wu32 a)).length (w64 ((u1.length : Int) + 1)).toNat] ?_
  refine (gtrim_fun (g.set (u1.length : Int).toNat (wu32 a)) (sm f) (w64 ((u1.length : Int) + 1)).toNat _ _ Y aa.fz).mono ?_; rintro _ c3 ⟨ab, ac, bf, rfl, bg, hm⟩; refine ⟨_, rfl, ?_⟩; intro es bh; have bi := aa.callZ hm; have I := hm.ext.le; clear hm aa bd
  replace hs3 := hs3.mono I
  replace hs6 := hs6.mono I
  replace Y := Y.mono I
  replace p := Fz.le.trans p I
  have c4 : Mem w.heap.size [] w Z [] bf c3 := bi; clear bi
  have c5 := a8 (bg.small); clear a8
  refine s1 bh 4 (.slice ab (gtrimS (g.set (u1.length : Int).toNat (wu32 a))).length ac) ?_; intro et c6; clear bh
  refine nlH (bc _ _ ?_); clear bc c1
  refine wp_ret ?_
  refine ra1 c6 (.slice ab (gtrimS (g.set (u1.length : Int).toNat (wu32 a))).length ac) ?_
  exact ⟨(gtrimS (g.set (u1.length : Int).toNat (wu32 a))), ab, ac, bf, rfl, c5, bg, c4.keep (List.Sublist.slnil)⟩
 have c7 := B.2 R; clear B
 refine wp_skip ?_
 refine thn ?_
 refine sqH ?_; intro c8 bj
 refine bt q o 3 [] [] [(17, i6 (w64 ((u0.length : Int) + 1)))] ?_; intro eu bk; clear q
 obtain ⟨ev, c9⟩ := c7
 refine mks bk o (T := (tyInt .u32)) (w64 ((u0.length : Int) + 1)) (w64 ((u0.length : Int) + 1)) (k := .i64) (k' := .i64) (e := 143) (bytes := 4) (zs := [.int .u32 0]) (z := 0) (by simp only [lim]; omega) (nog rfl _) rfl (by kernel_rfl) rfl (by kernel_rfl) (by kernel_rfl) (by kernel_rfl) (by kernel_rfl) rfl ?_; intro h ew da bl bm; clear bk o
 have J : Mem w.heap.size [] w Z [.own (tyInt .u32) 143 (sm h) (w64 ((u0.length : Int) + 1)).toNat (List.replicate (w64 ((u0.length : Int) + 1)).toNat (0 : Int))] Z da := bm; clear bm
 refine s1 bl 5 (.slice (sm h) (List.replicate (w64 ((u0.length : Int) + 1)).toNat (0 : Int)).length (w64 ((u0.length : Int) + 1)).toNat) ?_; intro ex bn; clear bl
 refine nlH (bj _ _ ?_); clear bj c8
 refine sqB bn J [] [] [(6, y6 0)] ?_; intro ey bo; clear bn
 refine wp_seq ?_
 refine sqB bo J [] [] [(7, i6 0)] ?_; intro bp bq; clear bo
 refine wp_block ?_
 have br : Fr 58 [] [⟨0, [], .slice ao1 u0.length cap2⟩, ⟨1, [], .slice ao4 u1.length cap5⟩, ⟨5, [], .slice (sm h) (List.replicate (w64 ((u0.length : Int) + 1)).toNat (0 : Int)).length (w64 ((u0.length : Int) + 1)).toNat⟩, ⟨6, [], y6 0⟩, ⟨7, [], i6 0⟩] bp := bq.reg; clear bq
 have bs : Fr 58 [] [⟨0, [], .slice ao1 u0.length cap2⟩, ⟨1, [], .slice ao4 u1.length cap5⟩, ⟨5, [], .slice (sm h) (List.replicate (w64 ((u0.length : Int) + 1)).toNat (0 : Int)).length (w64 ((u0.length : Int) + 1)).toNat⟩, ⟨6, [], y6 0⟩, ⟨7, [], i6 0⟩] bp := br.reg; clear br
 obtain ⟨db, dc, dd, de⟩ := c9
 refine lp (ι := Int × Int × (List Int)) (fun s => [⟨0, [], .slice ao1 u0.length cap2⟩, ⟨1, [], .slice ao4 u1.length cap5⟩, ⟨5, [], .slice (sm h) s.2.2.length (w64 ((u0.length : Int) + 1)).toNat⟩, ⟨6, [], y6 s.1⟩, ⟨7, [], i6 s.2.1⟩]) (fun s => [.own (tyInt .u32) 143 (sm h) (w64 ((u0.length : Int) + 1)).toNat s.2.2]) (fun s => Z) (fun s => db s.1 s.2.1 s.2.2) (fun s => dc s.1 s.2.1 s.2.2) ⟨0, 0, (List.replicate (w64 ((u0.length : Int) + 1)).toNat (0 : Int))⟩ dd (by exact bs.reg) (by exact J) ?_
 rintro ⟨a, b, i⟩ df dg dh bu bv
 have bw : Fr 58 [] [⟨0, [], .slice ao1 u0.length cap2⟩, ⟨1, [], .slice ao4 u1.length cap5⟩, ⟨5, [], .slice (sm h) i.length (w64 ((u0.length : Int) + 1)).toNat⟩, ⟨6, [], y6 a⟩, ⟨7, [], i6 b⟩] dg := bu; clear bu bs
 have l : Mem w.heap.size [] w Z [.own (tyInt .u32) 143 (sm h) (w64 ((u0.length : Int) + 1)).toNat i] Z dh := bv; clear bv J
 have L := de a b i df
 refine wp_seq ?_
 refine sqB bw l [] [] [(22, .bool (decide (b < (u0.length : Int))))] ?_; intro ez y; clear bw
 refine cd y (t := decide (b < (u0.length : Int))) (by kernel_rfl) (fun ad => ?_) (fun ad => ?_)
 ·
  have di := L.1 ad; clear L
  refine wp_skip ?_
  refine thn ?_
  refine wp_seq ?_
  refine wp_block ?_
  refine sqH ?_; intro dj bx
  refine bt y l 3 [] [] [(25, y6 a), (26, .slice ao1 u0.length cap2), (27, i6 b)] ?_; intro eA bz; clear y
  obtain ⟨dk, bA⟩ := di
  refine ix bz (T := (tyInt .u32)) (xs := u0) hs3 b dk (k := .i64) (e := 143) (bytes := 4) (nog rfl _) rfl (by kernel_rfl) rfl (by kernel_rfl) (by kernel_rfl) (by kernel_rfl) ?_; intro bB bC dl d eB dm dn dp bD; clear bz
  have M := bA d dm; clear bA
  obtain rfl : dl = ([.int .u32 d] : List Value) := dp
  refine z1 bD l 29 dn 0 (.int .u32 d) rfl ?_; intro eC bE; clear bD
  refine bt bE l 3 [] [] [(6, y6 (wu64 (a + (wu64 d))))] ?_; intro eD bF; clear bE
  refine nlH (bx _ _ ?_); clear bx dj
  refine wp_seq ?_
  refine sqB bF l [] [] [(35, .bool (decide (b < (u1.length : Int))))] ?_; intro eE A; clear bF
  refine cd A (t := decide (b < (u1.length : Int))) (by kernel_rfl) (fun ae => ?_) (fun ae => ?_)
  ·
   have dq := M.1 ae; clear M
   refine rgH ?_; intro dr bG
   refine bt A l 3 [] [] [(36, y6 (wu64 (a + (wu64 d)))), (37, .slice ao4 u1.length cap5), (38, i6 b)] ?_; intro eF bH; clear A
   obtain ⟨ds, bI⟩ := dq
   refine ix bH (T := (tyInt .u32)) (xs := u1) hs6 b ds (k := .i64) (e := 143) (bytes := 4) (nog rfl _) rfl (by kernel_rfl) rfl (by kernel_rfl) (by kernel_rfl) (by kernel_rfl) ?_; intro dt du dv n eG dw dx dy bJ; clear bH
   have dz := bI n dw; clear bI
   obtain rfl : dv = ([.int .u32 n] : List Value) := dy
   refine z1 bJ l 40 dx 0 (.int .u32 n) rfl ?_; intro eH bK; clear bJ
   refine bt bK l 3 [] [] [(6, y6 (wu64 ((wu64 (a + (wu64 d))) + (wu64 n))))] ?_; intro eI bL; clear bK
   refine nlH (bG _ _ ?_); clear bG dr
   refine thn ?_
   refine sqH ?_; intro dA bM
   refine bt bL l 4 [] [] [(43, .slice (sm h) i.length (w64 ((u0.length : Int) + 1)).toNat), (44, i6 b), (46, .int .u32 (wu32 (wu64 ((wu64 (a + (wu64 d))) + (wu64 n)))))] ?_; intro eJ bN; clear bL
   obtain ⟨dB, bO⟩ := dz
   refine ixo bN l 0 (T := (tyInt .u32)) (xs := i) b dB (k := .i64) (e := 143) (bytes := 4) (nog rfl _) rfl (by kernel_rfl) rfl (by kernel_rfl) (by kernel_rfl) rfl (by kernel_rfl) ?_; intro dC dD dE N; clear bN
   obtain rfl : h = dC := by simpa using dE
   refine so N l 0 (T := (tyInt .u32)) (xs := i) b.toNat (wu32 (wu64 ((wu64 (a + (wu64 d))) + (wu64 n)))) (u := .int .u32 (wu32 (wu64 ((wu64 (a + (wu64 d))) + (wu64 n))))) (nog rfl _) rfl rfl (by kernel_rfl) rfl (by kernel_rfl) rfl (by kernel_rfl) (by first | omega | (simp only [List.length_set] at *; omega)) rfl ?_; intro dF bP; clear l
   have bQ : Fr 58 [] [⟨0, [], .slice ao1 u0.length cap2⟩, ⟨1, [], .slice ao4 u1.length cap5⟩, ⟨5, [], .slice (sm h) (i.set b.toNat (wu32 (wu64 ((wu64 (a + (wu64 d))) + (wu64 n))))).length (w64 ((u0.length : Int) + 1)).toNat⟩, ⟨6, [], y6 (wu64 ((wu64 (a + (wu64 d))) + (wu64 n)))⟩, ⟨7, [], i6 b⟩, ⟨22, [], .bool (decide (b < (u0.length : Int)))⟩, ⟨25, [], y6 a⟩, ⟨26, [], .slice ao1 u0.length cap2⟩, ⟨27, [], i6 b⟩, ⟨28, [], pt bB bC⟩, ⟨29, [], .int .u32 d⟩, ⟨35, [], .bool (decide (b < (u1.length : Int)))⟩, ⟨36, [], y6 (wu64 (a + (wu64 d)))⟩, ⟨37, [], .slice ao4 u1.length cap5⟩, ⟨38, [], i6 b⟩, ⟨39, [], pt dt du⟩, ⟨40, [], .int .u32 n⟩, ⟨43, [], .slice (sm h) (i.set b.toNat (wu32 (wu64 ((wu64 (a + (wu64 d))) + (wu64 n))))).length (w64 ((u0.length : Int) + 1)).toNat⟩, ⟨44, [], i6 b⟩, ⟨46, [], .int .u32 (wu32 (wu64 ((wu64 (a + (wu64 d))) + (wu64 n))))⟩, ⟨47, [], .pointer (some ⟨h, b.toNat * 1, none⟩)⟩] dD := by (try simp only [List.length_set] at N); (try simp only [List.length_set]); exact N.reg
   clear N
   have af : Mem w.heap.size [] w Z [.own (tyInt .u32) 143 (sm h) (w64 ((u0.length : Int) + 1)).toNat (i.set b.toNat (wu32 (wu64 ((wu64 (a + (wu64 d))) + (wu64 n)))))] Z dF := bP; clear bP
   refine nlH (bM _ _ ?_); clear bM dA
   refine rgB bQ af [] [] [(6, y6 (bShr .u64 (wu64 ((wu64 (a + (wu64 d))) + (wu64 n))) 32))] ?_; intro eK bR; clear bQ
   refine ibn ?_
   refine thn ?_
   refine rgB bR af [] [] [(7, i6 (w64 (b + 1)))] ?_; intro eL dG; clear bR
   refine rd ?_
   exact ⟨⟨bShr .u64 (wu64 ((wu64 (a + (wu64 d))) + (wu64 n))) 32, w64 (b + 1), i.set b.toNat (wu32 (wu64 ((wu64 (a + (wu64 d))) + (wu64 n))))⟩, bO.1, bO.2, (dG.reg).anyβ _ (by kernel_rfl), af.keep (List.Sublist.cons_cons _ (List.Sublist.slnil))⟩
  have dH := M.2 ae; clear M
  refine wp_skip ?_
  refine thn ?_
  refine sqH ?_; intro dI bS
  refine bt A l 4 [] [] [(43, .slice (sm h) i.length (w64 ((u0.length : Int) + 1)).toNat), (44, i6 b), (46, .int .u32 (wu32 (wu64 (a + (wu64 d)))))] ?_; intro eM bT; clear A
  obtain ⟨dJ, bU⟩ := dH
  refine ixo bT l 0 (T := (tyInt .u32)) (xs := i) b dJ (k := .i64) (e := 143) (bytes := 4) (nog rfl _) rfl (by kernel_rfl) rfl (by kernel_rfl) (by kernel_rfl) rfl (by kernel_rfl) ?_; intro dK dL dM O; clear bT
  obtain rfl : h = dK := by simpa using dM
  refine so O l 0 (T := (tyInt .u32)) (xs := i) b.toNat (wu32 (wu64 (a + (wu64 d)))) (u := .int .u32 (wu32 (wu64 (a + (wu64 d))))) (nog rfl _) rfl rfl (by kernel_rfl) rfl (by kernel_rfl) rfl (by kernel_rfl) (by first | omega | (simp only [List.length_set] at *; omega)) rfl ?_; intro dN bV; clear l
  have bW : Fr 58 [] [⟨0, [], .slice ao1 u0.length cap2⟩, ⟨1, [], .slice ao4 u1.length cap5⟩, ⟨5, [], .slice (sm h) (i.set b.toNat (wu32 (wu64 (a + (wu64 d))))).length (w64 ((u0.length : Int) + 1)).toNat⟩, ⟨6, [], y6 (wu64 (a + (wu64 d)))⟩, ⟨7, [], i6 b⟩, ⟨22, [], .bool (decide (b < (u0.length : Int)))⟩, ⟨25, [], y6 a⟩, ⟨26, [], .slice ao1 u0.length cap2⟩, ⟨27, [], i6 b⟩, ⟨28, [], pt bB bC⟩, ⟨29, [], .int .u32 d⟩, ⟨35, [], .bool (decide (b < (u1.length : Int)))⟩, ⟨43, [], .slice (sm h) (i.set b.toNat (wu32 (wu64 (a + (wu64 d))))).length (w64 ((u0.length : Int) + 1)).toNat⟩, ⟨44, [], i6 b⟩, ⟨46, [], .int .u32 (wu32 (wu64 (a + (wu64 d))))⟩, ⟨47, [], .pointer (some ⟨h, b.toNat * 1, none⟩)⟩] dL := by (try simp only [List.length_set] at O); (try simp only [List.length_set]); exact O.reg
  clear O
  have ag : Mem w.heap.size [] w Z [.own (tyInt .u32) 143 (sm h) (w64 ((u0.length : Int) + 1)).toNat (i.set b.toNat (wu32 (wu64 (a + (wu64 d)))))] Z dN := bV; clear bV
  refine nlH (bS _ _ ?_); clear bS dI
  refine rgB bW ag [] [] [(6, y6 (bShr .u64 (wu64 (a + (wu64 d))) 32))] ?_; intro eN bX; clear bW
  refine ibn ?_
  refine thn ?_
  refine rgB bX ag [] [] [(7, i6 (w64 (b + 1)))] ?_; intro eO dO; clear bX
  refine rd ?_
  exact ⟨⟨bShr .u64 (wu64 (a + (wu64 d))) 32, w64 (b + 1), i.set b.toNat (wu32 (wu64 (a + (wu64 d))))⟩, bU.1, bU.2, (dO.reg).anyβ _ (by kernel_rfl), ag.keep (List.Sublist.cons_cons _ (List.Sublist.slnil))⟩
 have dP := L.2 ad; clear L
 refine wp_exit ?_
 refine thx ?_
 refine thx ?_
 refine ibx ?_
 refine thn ?_
 refine sqH ?_; intro dQ bY
 refine bt y l 5 [] [] [(50, .slice (sm h) i.length (w64 ((u0.length : Int) + 1)).toNat), (52, i6 (u0.length : Int)), (54, .int .u32 (wu32 a))] ?_; intro eP bZ; clear y
 obtain ⟨dR, b0⟩ := dP
 refine ixo bZ l 0 (T := (tyInt .u32)) (xs := i) (u0.length : Int) dR (k := .i64) (e := 143) (bytes := 4) (nog rfl _) rfl (by kernel_rfl) rfl (by kernel_rfl) (by kernel_rfl) rfl (by kernel_rfl) ?_; intro dS dT dU P; clear bZ
 obtain rfl : h = dS := by simpa using dU
 refine so P l 0 (T := (tyInt .u32)) (xs := i) (u0.length : Int).toNat (wu32 a) (u := .int .u32 (wu32 a)) (nog rfl _) rfl rfl (by kernel_rfl) rfl (by kernel_rfl) rfl (by kernel_rfl) (by first | omega | (simp only [List.length_set] at *; omega)) rfl ?_; intro b1 b2; clear l
 have b3 : Fr 58 [] [⟨0, [], .slice ao1 u0.length cap2⟩, ⟨1, [], .slice ao4 u1.length cap5⟩, ⟨5, [], .slice (sm h) (i.set (u0.length : Int).toNat (wu32 a)).length (w64 ((u0.length : Int) + 1)).toNat⟩, ⟨6, [], y6 a⟩, ⟨7, [], i6 b⟩, ⟨22, [], .bool (decide (b < (u0.length : Int)))⟩, ⟨50, [], .slice (sm h) (i.set (u0.length : Int).toNat (wu32 a)).length (w64 ((u0.length : Int) + 1)).toNat⟩, ⟨52, [], i6 (u0.length : Int)⟩, ⟨54, [], .int .u32 (wu32 a)⟩, ⟨55, [], .pointer (some ⟨h, (u0.length : Int).toNat * 1, none⟩)⟩] dT := by (try simp only [List.length_set] at P); (try simp only [List.length_set]); exact P.reg
 clear P
 have dV : Mem w.heap.size [] w Z [.own (tyInt .u32) 143 (sm h) (w64 ((u0.length : Int) + 1)).toNat (i.set (u0.length : Int).toNat (wu32 a))] Z b1 := b2; clear b2
 refine nlH (bY _ _ ?_); clear bY dQ
 refine sqH ?_; intro dW b4
 refine s1 b3 56 (.slice (sm h) (i.set (u0.length : Int).toNat (wu32 a)).length (w64 ((u0.length : Int) + 1)).toNat) ?_; intro eQ b5; clear b3
 obtain ⟨dX, ah, b6, ai⟩ := dV.freeze 0 rfl
 replace hs3 := hs3.mono ah
 replace hs6 := hs6.mono ah
 replace p := Fz.le.trans p ah
 have aj : Mem w.heap.size [] w Z [] dX b1 := b6; clear b6
 refine ck b5 126 #[.slice (sm h) (i.set (u0.length : Int).toNat (wu32 a)).length (w64 ((u0.length : Int) + 1)).toNat] ?_
 refine (gtrim_fun (i.set (u0.length : Int).toNat (wu32 a)) (sm h) (w64 ((u0.length : Int) + 1)).toNat _ _ ai aj.fz).mono ?_; rintro _ dY ⟨ak, al, b7, rfl, b8, hm⟩; refine ⟨_, rfl, ?_⟩; intro eR b9; have ca := aj.callZ hm; have Q := hm.ext.le; clear hm aj b5
 replace hs3 := hs3.mono Q
 replace hs6 := hs6.mono Q
 replace ai := ai.mono Q
 replace p := Fz.le.trans p Q
 have dZ : Mem w.heap.size [] w Z [] b7 dY := ca; clear ca
 have d0 := b0 (b8.small); clear b0
 refine s1 b9 4 (.slice ak (gtrimS (i.set (u0.length : Int).toNat (wu32 a))).length al) ?_; intro eS d1; clear b9
 refine nlH (b4 _ _ ?_); clear b4 dW
 refine wp_ret ?_
 refine ra1 d1 (.slice ak (gtrimS (i.set (u0.length : Int).toNat (wu32 a))).length al) ?_
 exact ⟨(gtrimS (i.set (u0.length : Int).toNat (wu32 a))), ak, al, b7, rfl, d0, b8, dZ.keep (List.Sublist.slnil)⟩

theorem gmul_walk (u0 : List Int) (u1 : List Int) (ao1 : Option Addr) (cap2 : Nat) (ao4 : Option Addr) (cap5 : Nat) (Z : Fz) (w : World) (hs3 : SlR (tyInt .u32) Z ao1 cap2 u0) (hs6 : SlR (tyInt .u32) Z ao4 cap5 u1) (hZ : Z.on w) {K : (List Int) → Prop} (hp : gmul_vc u0 u1 K) : Calls Tryz.prog 124 #[.slice ao1 u0.length cap2, .slice ao4 u1.length cap5] w fun e w' => ∃ (r : (List Int)) (ao1001 : Option Addr) (cap1002 : Nat) (Z' : Fz), e = .returned (.slice ao1001 r.length cap1002) ∧ K r ∧ SlR (tyInt .u32) Z' ao1001 cap1002 r ∧ Mem w.heap.size [] w Z [] Z' w' := by
 refine enter0 Tryz.func124 rfl rfl (by kernel_rfl) ?_; intro a0 U; have n := Mem.start w Z hZ; have y := Fz.le.refl Z
 have V := hp (hs3.small); clear hp
 have A := V (hs6.small); clear V
 refine sqB U n [] [] [] ?_; intro ch W; clear U
 refine wp_seq ?_
 refine sqB W n [] [] [(16, .bool (((u0.length : Int) == 0) || ((u1.length : Int) == 0)))] ?_; intro ci q; clear W
 refine cd q (t := ((u0.length : Int) == 0) || ((u1.length : Int) == 0)) (by kernel_rfl) (fun G => ?_) (fun G => ?_)
 ·
  have a6 := A.1 G; clear A
  refine sqB q n [] [] [(4, .slice none 0 0)] ?_; intro cj a7; clear q
  refine wp_ret ?_
  refine thr ?_
  refine ra1 a7 (.slice none 0 0) ?_
  exact ⟨[], none, 0, Z, rfl, a6, (SlR.nil _ _), n.keep (List.Sublist.slnil)⟩
 have a8 := A.2 G; clear A
 refine wp_skip ?_
 refine thn ?_
 refine sqH ?_; intro a9 X
 refine bt q n 5 [] [] [(21, i6 (w64 ((u0.length : Int) + (u1.length : Int))))] ?_; intro cl Y; clear q
 obtain ⟨cm, ba⟩ := a8
 refine mks Y n (T := (tyInt .u32)) (w64 ((u0.length : Int) + (u1.length : Int))) (w64 ((u0.length : Int) + (u1.length : Int))) (k := .i64) (k' := .i64) (e := 143) (bytes := 4) (zs := [.int .u32 0]) (z := 0) (by simp only [lim]; omega) (nog rfl _) rfl (by kernel_rfl) rfl (by kernel_rfl) (by kernel_rfl) (by kernel_rfl) (by kernel_rfl) rfl ?_; intro b cn bb aa ab; clear Y n
 have H : Mem w.heap.size [] w Z [.own (tyInt .u32) 143 (sm b) (w64 ((u0.length : Int) + (u1.length : Int))).toNat (List.replicate (w64 ((u0.length : Int) + (u1.length : Int))).toNat (0 : Int))] Z bb := ab; clear ab
 refine s1 aa 5 (.slice (sm b) (List.replicate (w64 ((u0.length : Int) + (u1.length : Int))).toNat (0 : Int)).length (w64 ((u0.length : Int) + (u1.length : Int))).toNat) ?_; intro co ac; clear aa
 refine nlH (X _ _ ?_); clear X a9
 refine wp_seq ?_
 refine sqB ac H [] [] [(6, i6 0)] ?_; intro ad ae; clear ac
 refine wp_block ?_
 have af : Fr 75 [] [⟨0, [], .slice ao1 u0.length cap2⟩, ⟨1, [], .slice ao4 u1.length cap5⟩, ⟨5, [], .slice (sm b) (List.replicate (w64 ((u0.length : Int) + (u1.length : Int))).toNat (0 : Int)).length (w64 ((u0.length : Int) + (u1.length : Int))).toNat⟩, ⟨6, [], i6 0⟩] ad := ae.reg; clear ae
 have ag : Fr 75 [] [⟨0, [], .slice ao1 u0.length cap2⟩, ⟨1, [], .slice ao4 u1.length cap5⟩, ⟨5, [], .slice (sm b) (List.replicate (w64 ((u0.length : Int) + (u1.length : Int))).toNat (0 : Int)).length (w64 ((u0.length : Int) + (u1.length : Int))).toNat⟩, ⟨6, [], i6 0⟩] ad := af.reg; clear af
 obtain ⟨bc, bd, be, bf⟩ := ba
 refine lp (ι := Int × (List Int)) (fun s => [⟨0, [], .slice ao1 u0.length cap2⟩, ⟨1, [], .slice ao4 u1.length cap5⟩, ⟨5, [], .slice (sm b) s.2.length (w64 ((u0.length : Int) + (u1.length : Int))).toNat⟩, ⟨6, [], i6 s.1⟩]) (fun s => [.own (tyInt .u32) 143 (sm b) (w64 ((u0.length : Int) + (u1.length : Int))).toNat s.2]) (fun s => Z) (fun s => bc s.1 s.2) (fun s => bd s.1 s.2) ⟨0, (List.replicate (w64 ((u0.length : Int) + (u1.length : Int))).toNat (0 : Int))⟩ be (by exact ag.reg) (by exact H) ?_
 rintro ⟨a, l⟩ bg bh ah ai aj
 have ak : Fr 75 [] [⟨0, [], .slice ao1 u0.length cap2⟩, ⟨1, [], .slice ao4 u1.length cap5⟩, ⟨5, [], .slice (sm b) l.length (w64 ((u0.length : Int) + (u1.length : Int))).toNat⟩, ⟨6, [], i6 a⟩] bh := ai; clear ai ag
 have p : Mem w.heap.size [] w Z [.own (tyInt .u32) 143 (sm b) (w64 ((u0.length : Int) + (u1.length : Int))).toNat l] Z ah := aj; clear aj H
 have B := bf a l bg
 refine wp_seq ?_
 refine sqB ak p [] [] [(26, .bool (decide (a < (u0.length : Int))))] ?_; intro cp v; clear ak
 refine cd v (t := decide (a < (u0.length : Int))) (by kernel_rfl) (fun I => ?_) (fun I => ?_)
 ·
  have bi := B.1 I; clear B
  refine wp_skip ?_
  refine thn ?_
  refine wp_seq ?_
  refine wp_block ?_
  refine sqB v p [] [] [(7, y6 0)] ?_; intro cq al; clear v
  refine wp_seq ?_
  refine sqB al p [] [] [(8, i6 0)] ?_; intro am an; clear al
  refine wp_block ?_
  have ao : Fr 75 [] [⟨0, [], .slice ao1 u0.length cap2⟩, ⟨1, [], .slice ao4 u1.length cap5⟩, ⟨5, [], .slice (sm b) l.length (w64 ((u0.length : Int) + (u1.length : Int))).toNat⟩, ⟨6, [], i6 a⟩, ⟨7, [], y6 0⟩, ⟨8, [], i6 0⟩] am := an.reg; clear an
  have ap : Fr 75 [] [⟨0, [], .slice ao1 u0.length cap2⟩, ⟨1, [], .slice ao4 u1.length cap5⟩, ⟨5, [], .slice (sm b) l.length (w64 ((u0.length : Int) + (u1.length : Int))).toNat⟩, ⟨6, [], i6 a⟩, ⟨7, [], y6 0⟩, ⟨8, [], i6 0⟩] am := ao.reg; clear ao
  obtain ⟨bj, bk, bl, bm⟩ := bi
  refine lp (ι := Int × Int × (List Int)) (fun s => [⟨0, [], .slice ao1 u0.length cap2⟩, ⟨1, [], .slice ao4 u1.length cap5⟩, ⟨5, [], .slice (sm b) s.2.2.length (w64 ((u0.length : Int) + (u1.length : Int))).toNat⟩, ⟨6, [], i6 a⟩, ⟨7, [], y6 s.1⟩, ⟨8, [], i6 s.2.1⟩]) (fun s => [.own (tyInt .u32) 143 (sm b) (w64 ((u0.length : Int) + (u1.length : Int))).toNat s.2.2]) (fun s => Z) (fun s => bj s.1 s.2.1 s.2.2) (fun s => bk s.1 s.2.1 s.2.2) ⟨0, 0, l⟩ bl (by exact ap.reg) (by exact p) ?_
  rintro ⟨d, c, f⟩ bn bo bp aq ar
  have au : Fr 75 [] [⟨0, [], .slice ao1 u0.length cap2⟩, ⟨1, [], .slice ao4 u1.length cap5⟩, ⟨5, [], .slice (sm b) f.length (w64 ((u0.length : Int) + (u1.length : Int))).toNat⟩, ⟨6, [], i6 a⟩, ⟨7, [], y6 d⟩, ⟨8, [], i6 c⟩] bo := aq; clear aq ap
  have o : Mem w.heap.size [] w Z [.own (tyInt .u32) 143 (sm b) (w64 ((u0.length : Int) + (u1.length : Int))).toNat f] Z bp := ar; clear ar p
  have C := bm d c f bn
  refine wp_seq ?_
  refine sqB au o [] [] [(32, .bool (decide (c < (u1.length : Int))))] ?_; intro bq x; clear au
  refine cd x (t := decide (c < (u1.length : Int))) (by kernel_rfl) (fun J => ?_) (fun J => ?_)
  ·
   have br := C.1 J; clear C
   refine wp_skip ?_
   refine thn ?_
   refine wp_seq ?_
   refine wp_block ?_
   have av : Fr 75 [] [⟨0, [], .slice ao1 u0.length cap2⟩, ⟨1, [], .slice ao4 u1.length cap5⟩, ⟨5, [], .slice (sm b) f.length (w64 ((u0.length : Int) + (u1.length : Int))).toNat⟩, ⟨6, [], i6 a⟩, ⟨7, [], y6 d⟩, ⟨8, [], i6 c⟩] bq := x.reg; clear x
   refine wp_seq (rgS mixed o [(0, true), (1, true), (2, true), (6, true), (7, true), (12, true), (13, true), (14, true), (15, true), (3, true), (4, true), (5, true), (8, true), (9, true), (10, true), (11, true), (16, false), (17, false), (18, true), (19, true), (20, true), (21, true)] [] [] [] ?_)
   intro bs aw cr m; clear o
   have ax := Fz.le.refl Z
   refine cS av 9 [] [] [(35, y6 d), (36, .slice ao1 u0.length cap2), (37, i6 a), (41, .slice ao4 u1.length cap5), (42, i6 c), (47, .slice (sm b) f.length (w64 ((u0.length : Int) + (u1.length : Int))).toNat), (50, i6 (w64 (a + c)))] ?_; intro cs ay; clear av
   obtain ⟨bu, az⟩ := br
   refine cix rfl ay (T := (tyInt .u32)) (xs := u0) hs3 a bu (k := .i64) (e := 143) (bytes := 4) (nog rfl _) rfl (by kernel_rfl) rfl (by kernel_rfl) (by kernel_rfl) (by kernel_rfl) ?_; intro bv bw bx h ct bz bA bB L; clear ay
   have bC := az h bz; clear az
   obtain rfl : bx = ([.int .u32 h] : List Value) := bB
   refine cst rfl L (.int .u32 h) (nog rfl _) rfl (by kernel_rfl) (fun v152 hC => lz L hC.fz bA 0 (g := []) rfl (by kernel_rfl) (by kernel_rfl) (by kernel_rfl) rfl) ?_; intro cu aA; clear L
   refine cS aA 1 [] [] [(40, y6 (wu64 h))] ?_; intro cv aB; clear aA
   obtain ⟨bD, aC⟩ := bC
   refine cix rfl aB (T := (tyInt .u32)) (xs := u1) hs6 c bD (k := .i64) (e := 143) (bytes := 4) (nog rfl _) rfl (by kernel_rfl) rfl (by kernel_rfl) (by kernel_rfl) (by kernel_rfl) ?_; intro bE bF bG i cw bH bI bJ M; clear aB
   have bK := aC i bH; clear aC
   obtain rfl : bG = ([.int .u32 i] : List Value) := bJ
   refine cst rfl M (.int .u32 i) (nog rfl _) rfl (by kernel_rfl) (fun v170 hC => lz M hC.fz bI 0 (g := []) rfl (by kernel_rfl) (by kernel_rfl) (by kernel_rfl) rfl) ?_; intro cx aD; clear M
   refine cS aD 2 [] [] [(46, y6 (wu64 ((wu64 h) * (wu64 i))))] ?_; intro cy aE; clear aD
   refine eS rfl ?_; intro bL aF
   obtain ⟨bM, aG⟩ := bK
   refine ixo aE m 0 (T := (tyInt .u32)) (xs := f) (w64 (a + c)) bM (k := .i64) (e := 143) (bytes := 4) (nog rfl _) rfl (by kernel_rfl) rfl (by kernel_rfl) (by kernel_rfl) rfl (by kernel_rfl) ?_; intro bN cz bO aH; clear aE
   obtain rfl : b = bN := by simpa using bO
   refine nl (qnI (aF _ _ (m.cst ax []) ?_)); clear aF bL
   refine eS rfl ?_; intro bP aI
   obtain ⟨j, bQ, bR⟩ := gxq aG (by first | omega | (simp only [List.length_set] at *; omega)); clear aG
   obtain ⟨bS, bT, bU⟩ := own_el m 0 (T := (tyInt .u32)) (xs := f) rfl (w64 (a + c)).toNat bQ
   obtain rfl : bS = ([.int .u32 j] : List Value) := bT
   refine lc1 aH 52 (.int .u32 j) (bU 0 _ rfl) rfl ?_; intro cA aJ; clear aH
   refine nl (qnI (aI _ _ (m.cst ax []) ?_)); clear aI bP
   refine cS aJ 4 [] [] [(7, y6 (wu64 (d + (wu64 ((wu64 ((wu64 h) * (wu64 i))) + (wu64 j))))))] ?_; intro cB aK; clear aJ
   refine nS (aw _ _ ?_); clear aw bs
   refine thn ?_
   refine sqH ?_; intro bV aL
   refine bt aK m 6 [] [] [(56, .slice (sm b) f.length (w64 ((u0.length : Int) + (u1.length : Int))).toNat), (59, i6 (w64 (a + c))), (61, .int .u32 (wu32 (wu64 (d + (wu64 ((wu64 ((wu64 h) * (wu64 i))) + (wu64 j)))))))] ?_; intro cC aM; clear aK
   obtain ⟨bW, aN⟩ := bR
   refine ixo aM m 0 (T := (tyInt .u32)) (xs := f) (w64 (a + c)) bW (k := .i64) (e := 143) (bytes := 4) (nog rfl _) rfl (by kernel_rfl) rfl (by kernel_rfl) (by kernel_rfl) rfl (by kernel_rfl) ?_; intro bX bY bZ D; clear aM
   obtain rfl : b = bX := by simpa using bZ
   refine so D m 0 (T := (tyInt .u32)) (xs := f) (w64 (a + c)).toNat (wu32 (wu64 (d + (wu64 ((wu64 ((wu64 h) * (wu64 i))) + (wu64 j)))))) (u := .int .u32 (wu32 (wu64 (d + (wu64 ((wu64 ((wu64 h) * (wu64 i))) + (wu64 j))))))) (nog rfl _) rfl rfl (by kernel_rfl) rfl (by kernel_rfl) rfl (by kernel_rfl) (by first | omega | (simp only [List.length_set] at *; omega)) rfl ?_; intro b0 aO; clear m
   have aP : Fr 75 [] [⟨0, [], .slice ao1 u0.length cap2⟩, ⟨1, [], .slice ao4 u1.length cap5⟩, ⟨5, [], .slice (sm b) (f.set (w64 (a + c)).toNat (wu32 (wu64 (d + (wu64 ((wu64 ((wu64 h) * (wu64 i))) + (wu64 j))))))).length (w64 ((u0.length : Int) + (u1.length : Int))).toNat⟩, ⟨6, [], i6 a⟩, ⟨7, [], y6 (wu64 (d + (wu64 ((wu64 ((wu64 h) * (wu64 i))) + (wu64 j)))))⟩, ⟨8, [], i6 c⟩, ⟨35, [], y6 d⟩, ⟨36, [], .slice ao1 u0.length cap2⟩, ⟨37, [], i6 a⟩, ⟨38, [], pt bv bw⟩, ⟨39, [], .int .u32 h⟩, ⟨40, [], y6 (wu64 h)⟩, ⟨41, [], .slice ao4 u1.length cap5⟩, ⟨42, [], i6 c⟩, ⟨43, [], pt bE bF⟩, ⟨44, [], .int .u32 i⟩, ⟨46, [], y6 (wu64 ((wu64 h) * (wu64 i)))⟩, ⟨47, [], .slice (sm b) (f.set (w64 (a + c)).toNat (wu32 (wu64 (d + (wu64 ((wu64 ((wu64 h) * (wu64 i))) + (wu64 j))))))).length (w64 ((u0.length : Int) + (u1.length : Int))).toNat⟩, ⟨50, [], i6 (w64 (a + c))⟩, ⟨51, [], .pointer (some ⟨b, (w64 (a + c)).toNat * 1, none⟩)⟩, ⟨52, [], .int .u32 j⟩, ⟨56, [], .slice (sm b) (f.set (w64 (a + c)).toNat (wu32 (wu64 (d + (wu64 ((wu64 ((wu64 h) * (wu64 i))) + (wu64 j))))))).length (w64 ((u0.length : Int) + (u1.length : Int))).toNat⟩, ⟨59, [], i6 (w64 (a + c))⟩, ⟨61, [], .int .u32 (wu32 (wu64 (d + (wu64 ((wu64 ((wu64 h) * (wu64 i))) + (wu64 j))))))⟩, ⟨62, [], .pointer (some ⟨b, (w64 (a + c)).toNat * 1, none⟩)⟩] bY := by (try simp only [List.length_set] at D); (try simp only [List.length_set]); exact D.reg
   clear D
   have N : Mem w.heap.size [] w Z [.own (tyInt .u32) 143 (sm b) (w64 ((u0.length : Int) + (u1.length : Int))).toNat (f.set (w64 (a + c)).toNat (wu32 (wu64 (d + (wu64 ((wu64 ((wu64 h) * (wu64 i))) + (wu64 j)))))))] Z b0 := aO; clear aO
   refine nlH (aL _ _ ?_); clear aL bV
   refine rgB aP N [] [] [(7, y6 (bShr .u64 (wu64 (d + (wu64 ((wu64 ((wu64 h) * (wu64 i))) + (wu64 j))))) 32))] ?_; intro cD aQ; clear aP
   refine ibn ?_
   refine thn ?_
   refine rgB aQ N [] [] [(8, i6 (w64 (c + 1)))] ?_; intro cE b1; clear aQ
   refine rd ?_
   exact ⟨⟨bShr .u64 (wu64 (d + (wu64 ((wu64 ((wu64 h) * (wu64 i))) + (wu64 j))))) 32, w64 (c + 1), f.set (w64 (a + c)).toNat (wu32 (wu64 (d + (wu64 ((wu64 ((wu64 h) * (wu64 i))) + (wu64 j))))))⟩, aN.1, aN.2, (b1.reg).anyβ _ (by kernel_rfl), N.keep (List.Sublist.cons_cons _ (List.Sublist.slnil))⟩
  have b2 := C.2 J; clear C
  refine wp_exit ?_
  refine thx ?_
  refine thx ?_
  refine ibx ?_
  refine thn ?_
  refine rgH ?_; intro b3 aR
  refine bt x o 7 [] [] [(65, .slice (sm b) f.length (w64 ((u0.length : Int) + (u1.length : Int))).toNat), (69, i6 (w64 (a + (u1.length : Int)))), (71, .int .u32 (wu32 d))] ?_; intro cF aS; clear x
  obtain ⟨b4, aT⟩ := b2
  refine ixo aS o 0 (T := (tyInt .u32)) (xs := f) (w64 (a + (u1.length : Int))) b4 (k := .i64) (e := 143) (bytes := 4) (nog rfl _) rfl (by kernel_rfl) rfl (by kernel_rfl) (by kernel_rfl) rfl (by kernel_rfl) ?_; intro b5 b6 b7 E; clear aS
  obtain rfl : b = b5 := by simpa using b7
  refine so E o 0 (T := (tyInt .u32)) (xs := f) (w64 (a + (u1.length : Int))).toNat (wu32 d) (u := .int .u32 (wu32 d)) (nog rfl _) rfl rfl (by kernel_rfl) rfl (by kernel_rfl) rfl (by kernel_rfl) (by first | omega | (simp only [List.length_set] at *; omega)) rfl ?_; intro b8 aU; clear o
  have aV : Fr 75 [] [⟨0, [], .slice ao1 u0.length cap2⟩, ⟨1, [], .slice ao4 u1.length cap5⟩, ⟨5, [], .slice (sm b) (f.set (w64 (a + (u1.length : Int))).toNat (wu32 d)).length (w64 ((u0.length : Int) + (u1.length : Int))).toNat⟩, ⟨6, [], i6 a⟩, ⟨7, [], y6 d⟩, ⟨8, [], i6 c⟩, ⟨32, [], .bool (decide (c < (u1.length : Int)))⟩, ⟨65, [], .slice (sm b) (f.set (w64 (a + (u1.length : Int))).toNat (wu32 d)).length (w64 ((u0.length : Int) + (u1.length : Int))).toNat⟩, ⟨69, [], i6 (w64 (a + (u1.length : Int)))⟩, ⟨71, [], .int .u32 (wu32 d)⟩, ⟨72, [], .pointer (some ⟨b, (w64 (a + (u1.length : Int))).toNat * 1, none⟩)⟩] b6 := by (try simp only [List.length_set] at E); (try simp only [List.length_set]); exact E.reg
  clear E
  have aW : Mem w.heap.size [] w Z [.own (tyInt .u32) 143 (sm b) (w64 ((u0.length : Int) + (u1.length : Int))).toNat (f.set (w64 (a + (u1.length : Int))).toNat (wu32 d))] Z b8 := aU; clear aU
  refine nlH (aR _ _ ?_); clear aR b3
  refine ibn ?_
  refine thn ?_
  refine rgB aV aW [] [] [(6, i6 (w64 (a + 1)))] ?_; intro cG b9; clear aV
  refine rd ?_
  exact ⟨⟨w64 (a + 1), f.set (w64 (a + (u1.length : Int))).toNat (wu32 d)⟩, aT.1, aT.2, (b9.reg).anyβ _ (by kernel_rfl), aW.keep (List.Sublist.cons_cons _ (List.Sublist.slnil))⟩
 have aX := B.2 I; clear B
 refine wp_exit ?_
 refine thx ?_
 refine thx ?_
 refine ibx ?_
 refine thn ?_
 refine sqH ?_; intro ca aY
 refine s1 v 73 (.slice (sm b) l.length (w64 ((u0.length : Int) + (u1.length : Int))).toNat) ?_; intro cH aZ; clear v
 obtain ⟨cb, O, a1, P⟩ := p.freeze 0 rfl
 replace hs3 := hs3.mono O
 replace hs6 := hs6.mono O
 replace y := Fz.le.trans y O
 have Q : Mem w.heap.size [] w Z [] cb ah := a1; clear a1
 refine ck aZ 126 #[.slice (sm b) l.length (w64 ((u0.length : Int) + (u1.length : Int))).toNat] ?_
 refine (gtrim_fun l (sm b) (w64 ((u0.length : Int) + (u1.length : Int))).toNat _ _ P Q.fz).mono ?_; rintro _ cc ⟨R, S, a2, rfl, a3, hm⟩; refine ⟨_, rfl, ?_⟩; intro cI a4; have a5 := Q.callZ hm; have F := hm.ext.le; clear hm Q aZ
 replace hs3 := hs3.mono F
 replace hs6 := hs6.mono F
 replace P := P.mono F
 replace y := Fz.le.trans y F
 have ce : Mem w.heap.size [] w Z [] a2 cc := a5; clear a5
 have cf := aX (a3.small); clear aX
 refine s1 a4 4 (.slice R (gtrimS l).length S) ?_; intro cJ cg; clear a4
 refine nlH (aY _ _ ?_); clear aY ca
 refine wp_ret ?_
 refine ra1 cg (.slice R (gtrimS l).length S) ?_
 exact ⟨(gtrimS l), R, S, a2, rfl, cf, a3, ce.keep (List.Sublist.slnil)⟩

theorem gleft_walk (u0 : List Int) (u1 : Int) (ao1 : Option Addr) (cap2 : Nat) (Z : Fz) (w : World) (hs3 : SlR (tyInt .u32) Z ao1 cap2 u0) (hZ : Z.on w) {K : (List Int) → Prop} (hp : gleft_vc u0 u1 K) : Calls Tryz.prog 103 #[.slice ao1 u0.length cap2, y6 u1] w fun e w' => ∃ (r : (List Int)) (ao1001 : Option Addr) (cap1002 : Nat) (Z' : Fz), e = .returned (.slice ao1001 r.length cap1002) ∧ K r ∧ SlR (tyInt .u32) Z' ao1001 cap1002 r ∧ Mem w.heap.size [] w Z [] Z' w' := by
 refine enter0 Tryz.func103 rfl rfl (by kernel_rfl) ?_; intro a0 I; have j := Mem.start w Z hZ; have o := Fz.le.refl Z
 have p := hp (hs3.small); clear hp
 refine sqB I j [] [] [] ?_; intro a6 J; clear I
 refine wp_seq ?_
 refine sqB J j [] [] [(12, .bool ((u0.length : Int) == 0))] ?_; intro bN m; clear J
 refine cd m (t := (u0.length : Int) == 0) (by kernel_rfl) (fun y => ?_) (fun y => ?_)
 ·
  have aN := p.1 y; clear p
  refine sqB m j [] [] [(4, .slice none 0 0)] ?_; intro bO aO; clear m
  refine wp_ret ?_
  refine thr ?_
  refine ra1 aO (.slice none 0 0) ?_
  exact ⟨[], none, 0, Z, rfl, aN, (SlR.nil _ _), j.keep (List.Sublist.slnil)⟩
 have aP := p.2 y; clear p
 refine wp_skip ?_
 refine thn ?_
 refine sqB m j [] [] [(5, i6 (w64 (wu64 (u1.tdiv 32)))), (6, y6 (u1.tmod 32))] ?_; intro bP L; clear m
 refine sqH ?_; intro aQ M
 refine bt L j 5 [] [] [(22, i6 (w64 ((w64 ((u0.length : Int) + (w64 (wu64 (u1.tdiv 32))))) + 1)))] ?_; intro bQ N; clear L
 obtain ⟨bR, aR⟩ := aP
 refine mks N j (T := (tyInt .u32)) (w64 ((w64 ((u0.length : Int) + (w64 (wu64 (u1.tdiv 32))))) + 1)) (w64 ((w64 ((u0.length : Int) + (w64 (wu64 (u1.tdiv 32))))) + 1)) (k := .i64) (k' := .i64) (e := 143) (bytes := 4) (zs := [.int .u32 0]) (z := 0) (by simp only [lim]; omega) (nog rfl _) rfl (by kernel_rfl) rfl (by kernel_rfl) (by kernel_rfl) (by kernel_rfl) (by kernel_rfl) rfl ?_; intro c bS aS O P; clear N j
 have A : Mem w.heap.size [] w Z [.own (tyInt .u32) 143 (sm c) (w64 ((w64 ((u0.length : Int) + (w64 (wu64 (u1.tdiv 32))))) + 1)).toNat (List.replicate (w64 ((w64 ((u0.length : Int) + (w64 (wu64 (u1.tdiv 32))))) + 1)).toNat (0 : Int))] Z aS := P; clear P
 refine s1 O 7 (.slice (sm c) (List.replicate (w64 ((w64 ((u0.length : Int) + (w64 (wu64 (u1.tdiv 32))))) + 1)).toNat (0 : Int)).length (w64 ((w64 ((u0.length : Int) + (w64 (wu64 (u1.tdiv 32))))) + 1)).toNat) ?_; intro bT Q; clear O
 refine nlH (M _ _ ?_); clear M aQ
 refine wp_seq ?_
 refine sqB Q A [] [] [(8, i6 0)] ?_; intro R S; clear Q
 refine wp_block ?_
 have U : Fr 61 [] [⟨0, [], .slice ao1 u0.length cap2⟩, ⟨5, [], i6 (w64 (wu64 (u1.tdiv 32)))⟩, ⟨6, [], y6 (u1.tmod 32)⟩, ⟨7, [], .slice (sm c) (List.replicate (w64 ((w64 ((u0.length : Int) + (w64 (wu64 (u1.tdiv 32))))) + 1)).toNat (0 : Int)).length (w64 ((w64 ((u0.length : Int) + (w64 (wu64 (u1.tdiv 32))))) + 1)).toNat⟩, ⟨8, [], i6 0⟩] R := S.reg; clear S
 have V : Fr 61 [] [⟨0, [], .slice ao1 u0.length cap2⟩, ⟨5, [], i6 (w64 (wu64 (u1.tdiv 32)))⟩, ⟨6, [], y6 (u1.tmod 32)⟩, ⟨7, [], .slice (sm c) (List.replicate (w64 ((w64 ((u0.length : Int) + (w64 (wu64 (u1.tdiv 32))))) + 1)).toNat (0 : Int)).length (w64 ((w64 ((u0.length : Int) + (w64 (wu64 (u1.tdiv 32))))) + 1)).toNat⟩, ⟨8, [], i6 0⟩] R := U.reg; clear U
 obtain ⟨aT, aU, aV, aW⟩ := aR
 refine lp (ι := Int × (List Int)) (fun s => [⟨0, [], .slice ao1 u0.length cap2⟩, ⟨5, [], i6 (w64 (wu64 (u1.tdiv 32)))⟩, ⟨6, [], y6 (u1.tmod 32)⟩, ⟨7, [], .slice (sm c) s.2.length (w64 ((w64 ((u0.length : Int) + (w64 (wu64 (u1.tdiv 32))))) + 1)).toNat⟩, ⟨8, [], i6 s.1⟩]) (fun s => [.own (tyInt .u32) 143 (sm c) (w64 ((w64 ((u0.length : Int) + (w64 (wu64 (u1.tdiv 32))))) + 1)).toNat s.2]) (fun s => Z) (fun s => aT s.1 s.2) (fun s => aU s.1 s.2) ⟨0, (List.replicate (w64 ((w64 ((u0.length : Int) + (w64 (wu64 (u1.tdiv 32))))) + 1)).toNat (0 : Int))⟩ aV (by exact V.reg) (by exact A) ?_
 rintro ⟨a, d⟩ aX aY W X Y
 have aa : Fr 61 [] [⟨0, [], .slice ao1 u0.length cap2⟩, ⟨5, [], i6 (w64 (wu64 (u1.tdiv 32)))⟩, ⟨6, [], y6 (u1.tmod 32)⟩, ⟨7, [], .slice (sm c) d.length (w64 ((w64 ((u0.length : Int) + (w64 (wu64 (u1.tdiv 32))))) + 1)).toNat⟩, ⟨8, [], i6 a⟩] aY := X; clear X V
 have h : Mem w.heap.size [] w Z [.own (tyInt .u32) 143 (sm c) (w64 ((w64 ((u0.length : Int) + (w64 (wu64 (u1.tdiv 32))))) + 1)).toNat d] Z W := Y; clear Y A
 have q := aW a d aX
 refine wp_seq ?_
 refine sqB aa h [] [] [(27, .bool (decide (a < (u0.length : Int))))] ?_; intro bU n; clear aa
 refine cd n (t := decide (a < (u0.length : Int))) (by kernel_rfl) (fun B => ?_) (fun B => ?_)
 ·
  have aZ := q.1 B; clear q
  refine wp_skip ?_
  refine thn ?_
  refine wp_seq ?_
  refine wp_block ?_
  refine sqH ?_; intro a1 ab
  refine bt n h 2 [] [] [(30, .slice ao1 u0.length cap2), (31, i6 a)] ?_; intro bV ac; clear n
  obtain ⟨a2, ad⟩ := aZ
  refine ix ac (T := (tyInt .u32)) (xs := u0) hs3 a a2 (k := .i64) (e := 143) (bytes := 4) (nog rfl _) rfl (by kernel_rfl) rfl (by kernel_rfl) (by kernel_rfl) (by kernel_rfl) ?_; intro ae af a3 b bW a4 a5 a7 ag; clear ac
  have a8 := ad b a4; clear ad
  obtain rfl : a3 = ([.int .u32 b] : List Value) := a7
  refine z1 ag h 33 a5 0 (.int .u32 b) rfl ?_; intro bX ah; clear ag
  refine bt ah h 2 [] [] [(34, y6 (wu64 b)), (35, y6 (u1.tmod 32))] ?_; intro bY C; clear ah
  obtain ⟨a9, ba⟩ := a8
  refine st C (y6 (bShl .u64 (wu64 b) (u1.tmod 32))) (nog rfl _) rfl (by kernel_rfl) (shl_run C (g := []) (k' := .u64) rfl (by kernel_rfl) (by kernel_rfl) a9 rfl) ?_; intro bZ ai; clear C
  refine s1 ai 9 (y6 (bShl .u64 (wu64 b) (u1.tmod 32))) ?_; intro b0 aj; clear ai
  refine nlH (ab _ _ ?_); clear ab a1
  refine sqH ?_; intro bb ak
  refine bt aj h 4 [] [] [(37, .slice (sm c) d.length (w64 ((w64 ((u0.length : Int) + (w64 (wu64 (u1.tdiv 32))))) + 1)).toNat), (40, i6 (w64 (a + (w64 (wu64 (u1.tdiv 32))))))] ?_; intro b1 al; clear aj
  obtain ⟨bc, am⟩ := ba
  refine ixo al h 0 (T := (tyInt .u32)) (xs := d) (w64 (a + (w64 (wu64 (u1.tdiv 32))))) bc (k := .i64) (e := 143) (bytes := 4) (nog rfl _) rfl (by kernel_rfl) rfl (by kernel_rfl) (by kernel_rfl) rfl (by kernel_rfl) ?_; intro bd b2 be an; clear al
  obtain rfl : c = bd := by simpa using be
  obtain ⟨f, bf, bg⟩ := gxq am (by first | omega | (simp only [List.length_set] at *; omega)); clear am
  obtain ⟨bh, bi, bj⟩ := own_el h 0 (T := (tyInt .u32)) (xs := d) rfl (w64 (a + (w64 (wu64 (u1.tdiv 32))))).toNat bf
  obtain rfl : bh = ([.int .u32 f] : List Value) := bi
  refine lc1 an 42 (.int .u32 f) (bj 0 _ rfl) rfl ?_; intro b3 ao; clear an
  refine bt ao h 3 [] [] [(45, .int .u32 (bOr .u32 f (wu32 (bShl .u64 (wu64 b) (u1.tmod 32)))))] ?_; intro b4 ap; clear ao
  obtain ⟨bk, bl⟩ := bg
  refine ixo ap h 0 (T := (tyInt .u32)) (xs := d) (w64 (a + (w64 (wu64 (u1.tdiv 32))))) bk (k := .i64) (e := 143) (bytes := 4) (nog rfl _) rfl (by kernel_rfl) rfl (by kernel_rfl) (by kernel_rfl) rfl (by kernel_rfl) ?_; intro bm bn bo v; clear ap
  obtain rfl : c = bm := by simpa using bo
  refine so v h 0 (T := (tyInt .u32)) (xs := d) (w64 (a + (w64 (wu64 (u1.tdiv 32))))).toNat (bOr .u32 f (wu32 (bShl .u64 (wu64 b) (u1.tmod 32)))) (u := .int .u32 (bOr .u32 f (wu32 (bShl .u64 (wu64 b) (u1.tmod 32))))) (nog rfl _) rfl rfl (by kernel_rfl) rfl (by kernel_rfl) rfl (by kernel_rfl) (by first | omega | (simp only [List.length_set] at *; omega)) rfl ?_; intro bp aq; clear h
  have ar : Fr 61 [] [⟨0, [], .slice ao1 u0.length cap2⟩, ⟨5, [], i6 (w64 (wu64 (u1.tdiv 32)))⟩, ⟨6, [], y6 (u1.tmod 32)⟩, ⟨7, [], .slice (sm c) (d.set (w64 (a + (w64 (wu64 (u1.tdiv 32))))).toNat (bOr .u32 f (wu32 (bShl .u64 (wu64 b) (u1.tmod 32))))).length (w64 ((w64 ((u0.length : Int) + (w64 (wu64 (u1.tdiv 32))))) + 1)).toNat⟩, ⟨8, [], i6 a⟩, ⟨9, [], y6 (bShl .u64 (wu64 b) (u1.tmod 32))⟩, ⟨27, [], .bool (decide (a < (u0.length : Int)))⟩, ⟨30, [], .slice ao1 u0.length cap2⟩, ⟨31, [], i6 a⟩, ⟨32, [], pt ae af⟩, ⟨33, [], .int .u32 b⟩, ⟨34, [], y6 (wu64 b)⟩, ⟨35, [], y6 (u1.tmod 32)⟩, ⟨36, [], y6 (bShl .u64 (wu64 b) (u1.tmod 32))⟩, ⟨37, [], .slice (sm c) (d.set (w64 (a + (w64 (wu64 (u1.tdiv 32))))).toNat (bOr .u32 f (wu32 (bShl .u64 (wu64 b) (u1.tmod 32))))).length (w64 ((w64 ((u0.length : Int) + (w64 (wu64 (u1.tdiv 32))))) + 1)).toNat⟩, ⟨40, [], i6 (w64 (a + (w64 (wu64 (u1.tdiv 32)))))⟩, ⟨41, [], .pointer (some ⟨c, (w64 (a + (w64 (wu64 (u1.tdiv 32))))).toNat * 1, none⟩)⟩, ⟨42, [], .int .u32 f⟩, ⟨45, [], .int .u32 (bOr .u32 f (wu32 (bShl .u64 (wu64 b) (u1.tmod 32))))⟩, ⟨46, [], .pointer (some ⟨c, (w64 (a + (w64 (wu64 (u1.tdiv 32))))).toNat * 1, none⟩)⟩] bn := by (try simp only [List.length_set] at v); (try simp only [List.length_set]); exact v.reg
  clear v
  have l : Mem w.heap.size [] w Z [.own (tyInt .u32) 143 (sm c) (w64 ((w64 ((u0.length : Int) + (w64 (wu64 (u1.tdiv 32))))) + 1)).toNat (d.set (w64 (a + (w64 (wu64 (u1.tdiv 32))))).toNat (bOr .u32 f (wu32 (bShl .u64 (wu64 b) (u1.tmod 32)))))] Z bp := aq; clear aq
  refine nlH (ak _ _ ?_); clear ak bb
  refine rgH ?_; intro bq au
  refine bt ar l 5 [] [] [(47, .slice (sm c) (d.set (w64 (a + (w64 (wu64 (u1.tdiv 32))))).toNat (bOr .u32 f (wu32 (bShl .u64 (wu64 b) (u1.tmod 32))))).length (w64 ((w64 ((u0.length : Int) + (w64 (wu64 (u1.tdiv 32))))) + 1)).toNat), (51, i6 (w64 ((w64 (a + (w64 (wu64 (u1.tdiv 32))))) + 1)))] ?_; intro b5 av; clear ar
  obtain ⟨br, aw⟩ := bl
  refine ixo av l 0 (T := (tyInt .u32)) (xs := d.set (w64 (a + (w64 (wu64 (u1.tdiv 32))))).toNat (bOr .u32 f (wu32 (bShl .u64 (wu64 b) (u1.tmod 32))))) (w64 ((w64 (a + (w64 (wu64 (u1.tdiv 32))))) + 1)) br (k := .i64) (e := 143) (bytes := 4) (nog rfl _) rfl (by kernel_rfl) rfl (by kernel_rfl) (by kernel_rfl) rfl (by kernel_rfl) ?_; intro bs b6 bu ax; clear av
  obtain rfl : c = bs := by simpa using bu
  obtain ⟨i, bv, bw⟩ := gxq aw (by first | omega | (simp only [List.length_set] at *; omega)); clear aw
  obtain ⟨bx, bz, bA⟩ := own_el l 0 (T := (tyInt .u32)) (xs := d.set (w64 (a + (w64 (wu64 (u1.tdiv 32))))).toNat (bOr .u32 f (wu32 (bShl .u64 (wu64 b) (u1.tmod 32))))) rfl (w64 ((w64 (a + (w64 (wu64 (u1.tdiv 32))))) + 1)).toNat bv
  obtain rfl : bx = ([.int .u32 i] : List Value) := bz
  refine lc1 ax 53 (.int .u32 i) (bA 0 _ rfl) rfl ?_; intro b7 ay; clear ax
  refine bt ay l 4 [] [] [(57, .int .u32 (bOr .u32 i (wu32 (bShr .u64 (bShl .u64 (wu64 b) (u1.tmod 32)) 32))))] ?_; intro b8 az; clear ay
  obtain ⟨bB, aA⟩ := bw
  refine ixo az l 0 (T := (tyInt .u32)) (xs := d.set (w64 (a + (w64 (wu64 (u1.tdiv 32))))).toNat (bOr .u32 f (wu32 (bShl .u64 (wu64 b) (u1.tmod 32))))) (w64 ((w64 (a + (w64 (wu64 (u1.tdiv 32))))) + 1)) bB (k := .i64) (e := 143) (bytes := 4) (nog rfl _) rfl (by kernel_rfl) rfl (by kernel_rfl) (by kernel_rfl) rfl (by kernel_rfl) ?_; intro bC bD bE x; clear az
  obtain rfl : c = bC := by simpa using bE
  refine so x l 0 (T := (tyInt .u32)) (xs := d.set (w64 (a + (w64 (wu64 (u1.tdiv 32))))).toNat (bOr .u32 f (wu32 (bShl .u64 (wu64 b) (u1.tmod 32))))) (w64 ((w64 (a + (w64 (wu64 (u1.tdiv 32))))) + 1)).toNat (bOr .u32 i (wu32 (bShr .u64 (bShl .u64 (wu64 b) (u1.tmod 32)) 32))) (u := .int .u32 (bOr .u32 i (wu32 (bShr .u64 (bShl .u64 (wu64 b) (u1.tmod 32)) 32)))) (nog rfl _) rfl rfl (by kernel_rfl) rfl (by kernel_rfl) rfl (by kernel_rfl) (by first | omega | (simp only [List.length_set] at *; omega)) rfl ?_; intro bF aB; clear l
  have aC : Fr 61 [] [⟨0, [], .slice ao1 u0.length cap2⟩, ⟨5, [], i6 (w64 (wu64 (u1.tdiv 32)))⟩, ⟨6, [], y6 (u1.tmod 32)⟩, ⟨7, [], .slice (sm c) ((d.set (w64 (a + (w64 (wu64 (u1.tdiv 32))))).toNat (bOr .u32 f (wu32 (bShl .u64 (wu64 b) (u1.tmod 32))))).set (w64 ((w64 (a + (w64 (wu64 (u1.tdiv 32))))) + 1)).toNat (bOr .u32 i (wu32 (bShr .u64 (bShl .u64 (wu64 b) (u1.tmod 32)) 32)))).length (w64 ((w64 ((u0.length : Int) + (w64 (wu64 (u1.tdiv 32))))) + 1)).toNat⟩, ⟨8, [], i6 a⟩, ⟨9, [], y6 (bShl .u64 (wu64 b) (u1.tmod 32))⟩, ⟨27, [], .bool (decide (a < (u0.length : Int)))⟩, ⟨30, [], .slice ao1 u0.length cap2⟩, ⟨31, [], i6 a⟩, ⟨32, [], pt ae af⟩, ⟨33, [], .int .u32 b⟩, ⟨34, [], y6 (wu64 b)⟩, ⟨35, [], y6 (u1.tmod 32)⟩, ⟨36, [], y6 (bShl .u64 (wu64 b) (u1.tmod 32))⟩, ⟨37, [], .slice (sm c) ((d.set (w64 (a + (w64 (wu64 (u1.tdiv 32))))).toNat (bOr .u32 f (wu32 (bShl .u64 (wu64 b) (u1.tmod 32))))).set (w64 ((w64 (a + (w64 (wu64 (u1.tdiv 32))))) + 1)).toNat (bOr .u32 i (wu32 (bShr .u64 (bShl .u64 (wu64 b) (u1.tmod 32)) 32)))).length (w64 ((w64 ((u0.length : Int) + (w64 (wu64 (u1.tdiv 32))))) + 1)).toNat⟩, ⟨40, [], i6 (w64 (a + (w64 (wu64 (u1.tdiv 32)))))⟩, ⟨41, [], .pointer (some ⟨c, (w64 (a + (w64 (wu64 (u1.tdiv 32))))).toNat * 1, none⟩)⟩, ⟨42, [], .int .u32 f⟩, ⟨45, [], .int .u32 (bOr .u32 f (wu32 (bShl .u64 (wu64 b) (u1.tmod 32))))⟩, ⟨46, [], .pointer (some ⟨c, (w64 (a + (w64 (wu64 (u1.tdiv 32))))).toNat * 1, none⟩)⟩, ⟨47, [], .slice (sm c) ((d.set (w64 (a + (w64 (wu64 (u1.tdiv 32))))).toNat (bOr .u32 f (wu32 (bShl .u64 (wu64 b) (u1.tmod 32))))).set (w64 ((w64 (a + (w64 (wu64 (u1.tdiv 32))))) + 1)).toNat (bOr .u32 i (wu32 (bShr .u64 (bShl .u64 (wu64 b) (u1.tmod 32)) 32)))).length (w64 ((w64 ((u0.length : Int) + (w64 (wu64 (u1.tdiv 32))))) + 1)).toNat⟩, ⟨51, [], i6 (w64 ((w64 (a + (w64 (wu64 (u1.tdiv 32))))) + 1))⟩, ⟨52, [], .pointer (some ⟨c, (w64 ((w64 (a + (w64 (wu64 (u1.tdiv 32))))) + 1)).toNat * 1, none⟩)⟩, ⟨53, [], .int .u32 i⟩, ⟨57, [], .int .u32 (bOr .u32 i (wu32 (bShr .u64 (bShl .u64 (wu64 b) (u1.tmod 32)) 32)))⟩, ⟨58, [], .pointer (some ⟨c, (w64 ((w64 (a + (w64 (wu64 (u1.tdiv 32))))) + 1)).toNat * 1, none⟩)⟩] bD := by (try simp only [List.length_set] at x); (try simp only [List.length_set]); exact x.reg
  clear x
  have aD : Mem w.heap.size [] w Z [.own (tyInt .u32) 143 (sm c) (w64 ((w64 ((u0.length : Int) + (w64 (wu64 (u1.tdiv 32))))) + 1)).toNat ((d.set (w64 (a + (w64 (wu64 (u1.tdiv 32))))).toNat (bOr .u32 f (wu32 (bShl .u64 (wu64 b) (u1.tmod 32))))).set (w64 ((w64 (a + (w64 (wu64 (u1.tdiv 32))))) + 1)).toNat (bOr .u32 i (wu32 (bShr .u64 (bShl .u64 (wu64 b) (u1.tmod 32)) 32))))] Z bF := aB; clear aB
  refine nlH (au _ _ ?_); clear au bq
  refine ibn ?_
  refine thn ?_
  refine rgB aC aD [] [] [(8, i6 (w64 (a + 1)))] ?_; intro b9 bG; clear aC
  refine rd ?_
  exact ⟨⟨w64 (a + 1), (d.set (w64 (a + (w64 (wu64 (u1.tdiv 32))))).toNat (bOr .u32 f (wu32 (bShl .u64 (wu64 b) (u1.tmod 32))))).set (w64 ((w64 (a + (w64 (wu64 (u1.tdiv 32))))) + 1)).toNat (bOr .u32 i (wu32 (bShr .u64 (bShl .u64 (wu64 b) (u1.tmod 32)) 32)))⟩, aA.1, aA.2, (bG.reg).anyβ _ (by kernel_rfl), aD.keep (List.Sublist.cons_cons _ (List.Sublist.slnil))⟩
 have aE := q.2 B; clear q
 refine wp_exit ?_
 refine thx ?_
 refine thx ?_
 refine ibx ?_
 refine thn ?_
 refine sqH ?_; intro bH aF
 refine s1 n 59 (.slice (sm c) d.length (w64 ((w64 ((u0.length : Int) + (w64 (wu64 (u1.tdiv 32))))) + 1)).toNat) ?_; intro ca aG; clear n
 obtain ⟨bI, aH, aI, D⟩ := h.freeze 0 rfl
 replace hs3 := hs3.mono aH
 replace o := Fz.le.trans o aH
 have E : Mem w.heap.size [] w Z [] bI W := aI; clear aI
 refine ck aG 126 #[.slice (sm c) d.length (w64 ((w64 ((u0.length : Int) + (w64 (wu64 (u1.tdiv 32))))) + 1)).toNat] ?_
 refine (gtrim_fun d (sm c) (w64 ((w64 ((u0.length : Int) + (w64 (wu64 (u1.tdiv 32))))) + 1)).toNat _ _ D E.fz).mono ?_; rintro _ bJ ⟨F, G, aJ, rfl, aK, hm⟩; refine ⟨_, rfl, ?_⟩; intro cb aL; have aM := E.callZ hm; have H := hm.ext.le; clear hm E aG
 replace hs3 := hs3.mono H
 replace D := D.mono H
 replace o := Fz.le.trans o H
 have bK : Mem w.heap.size [] w Z [] aJ bJ := aM; clear aM
 have bL := aE (aK.small); clear aE
 refine s1 aL 4 (.slice F (gtrimS d).length G) ?_; intro cc bM; clear aL
 refine nlH (aF _ _ ?_); clear aF bH
 refine wp_ret ?_
 refine ra1 bM (.slice F (gtrimS d).length G) ?_
 exact ⟨(gtrimS d), F, G, aJ, rfl, bL, aK, bK.keep (List.Sublist.slnil)⟩

theorem ggive_walk (u0 : BInt) (u1 : Bool) (u2 : List Int) (b1 : Nat) (ao2 : Option Addr) (cap3 : Nat) (ao5 : Option Addr) (cap6 : Nat) (B : Nat) (w0 : World) (Z0 : Fz) (Rr : List Res) (Z : Fz) (w : World) (hs4 : SlR (tyInt .u32) Z ao2 cap3 u0.abs) (hs7 : SlR (tyInt .u32) Z ao5 cap6 u2) (hM0 : Mem B [] w0 Z0 ((.row b1 [.bool u0.neg, .slice ao2 u0.abs.length cap3] 117) :: Rr) Z w) (hZ : Z.on w) {K : BInt → Prop} (hp : ggive_vc u0 u1 u2 K) : Calls Tryz.prog 102 #[pt b1 0, .bool u1, .slice ao5 u2.length cap6] w fun e w' => ∃ (r : BInt) (ao1001 : Option Addr) (cap1002 : Nat) (Z' : Fz), e = .returned (pt b1 0) ∧ K r ∧ Fz.le Z Z' ∧ SlR (tyInt .u32) Z' ao1001 cap1002 r.abs ∧ Mem B [] w0 Z0 ((.row b1 [.bool r.neg, .slice ao1001 r.abs.length cap1002] 117) :: Rr) Z' w' := by
 refine enter0 Tryz.func102 rfl rfl (by kernel_rfl) ?_; intro u d; have m := Fz.le.refl Z
 have f := hp (hs4.small); clear hp
 have n := f (hs7.small); clear f
 refine sqB d hM0 [] [] [] ?_; intro v g; clear d
 refine sqH ?_; intro o h
 refine bt g hM0 4 [] [] [(8, .slice ao5 u2.length cap6), (10, pt b1 1)] ?_; intro x a; clear g
 refine sx a hM0 0 [.bool u0.neg, .slice ao5 u2.length cap6] 1 ?_; intro p i; clear hM0
 have b : Mem B [] w0 Z0 ((.row b1 [.bool u0.neg, .slice ao5 u2.length cap6] 117) :: Rr) Z p := i; clear i
 refine nlH (h _ _ ?_); clear h o
 refine sqH ?_; intro q j
 refine bt a b 9 [] [] [(17, .bool (u1 && (decide ((u2.length : Int) > 0)))), (19, pt b1 0)] ?_; intro y c; clear a
 refine sx c b 0 [.bool (u1 && (decide ((u2.length : Int) > 0))), .slice ao5 u2.length cap6] 0 ?_; intro s k; clear b
 have l : Mem B [] w0 Z0 ((.row b1 [.bool (u1 && (decide ((u2.length : Int) > 0))), .slice ao5 u2.length cap6] 117) :: Rr) Z s := k; clear k
 refine nlH (j _ _ ?_); clear j q
 refine sqB c l [] [] [(6, pt b1 0)] ?_; intro z t; clear c
 refine wp_ret ?_
 refine ra1 t (pt b1 0) ?_
 exact ⟨(⟨u1 && (decide ((u2.length : Int) > 0)), u2⟩ : BInt), ao5, cap6, Z, rfl, n, m, hs7, l.keep (List.Sublist.cons_cons _ (List.Sublist.refl _))⟩
theorem ggive_fun (u0 : BInt) (u1 : Bool) (u2 : List Int) (b1 : Nat) (ao2 : Option Addr) (cap3 : Nat) (ao5 : Option Addr) (cap6 : Nat) (B : Nat) (w0 : World) (Z0 : Fz) (Rr : List Res) (Z : Fz) (w : World) (hs4 : SlR (tyInt .u32) Z ao2 cap3 u0.abs) (hs7 : SlR (tyInt .u32) Z ao5 cap6 u2) (hM0 : Mem B [] w0 Z0 ((.row b1 [.bool u0.neg, .slice ao2 u0.abs.length cap3] 117) :: Rr) Z w) (hZ : Z.on w) : Calls Tryz.prog 102 #[pt b1 0, .bool u1, .slice ao5 u2.length cap6] w fun e w' => ∃ (ao1001 : Option Addr) (cap1002 : Nat) (Z' : Fz), e = .returned (pt b1 0) ∧ Fz.le Z Z' ∧ SlR (tyInt .u32) Z' ao1001 cap1002 (ggive u0 u1 u2).abs ∧ Mem B [] w0 Z0 ((.row b1 [.bool (ggive u0 u1 u2).neg, .slice ao1001 (ggive u0 u1 u2).abs.length cap1002] 117) :: Rr) Z' w' :=
  (ggive_walk u0 u1 u2 b1 ao2 cap3 ao5 cap6 B w0 Z0 Rr Z w hs4 hs7 hM0 hZ (ggive_ok u0 u1 u2)).mono fun _ _ ⟨r, h0, h1, h2, he, hk, f0, f1, hm⟩ => by subst hk; exact ⟨h0, h1, h2, he, f0, f1, hm⟩

theorem glow_walk (u0 : BInt) (u1 : Int) (b1 : Nat) (ao2 : Option Addr) (cap3 : Nat) (B : Nat) (w0 : World) (Z0 : Fz) (Rr : List Res) (Z : Fz) (w : World) (hs4 : SlR (tyInt .u32) Z ao2 cap3 u0.abs) (hM0 : Mem B [] w0 Z0 ((.row b1 [.bool u0.neg, .slice ao2 u0.abs.length cap3] 117) :: Rr) Z w) (hZ : Z.on w) {K : ((List Int) × BInt) → Prop} (hp : glow_vc u0 u1 K) : Calls Tryz.prog 105 #[pt b1 0, i6 u1] w fun e w' => ∃ (r : (List Int) × BInt) (ao1001 : Option Addr) (cap1002 : Nat) (ao1003 : Option Addr) (cap1004 : Nat) (Z' : Fz), e = .returned (.slice ao1001 r.1.length cap1002) ∧ K r ∧ Fz.le Z Z' ∧ SlR (tyInt .u32) Z' ao1003 cap1004 r.2.abs ∧ Mem B [] w0 Z0 ((.own (tyInt .u32) 143 ao1001 cap1002 r.1) :: (.row b1 [.bool r.2.neg, .slice ao1003 r.2.abs.length cap1004] 117) :: Rr) Z' w' := by
 refine enter0 Tryz.func105 rfl rfl (by kernel_rfl) ?_; intro I f; have t := Fz.le.refl Z
 have u := hp (hs4.small); clear hp
 refine sqB f hM0 [] [] [] ?_; intro J g; clear f
 refine sqH ?_; intro v h
 refine s1 g 8 (i6 u1) ?_; intro L i; clear g
 obtain ⟨M, x⟩ := u
 refine mks i hM0 (T := (tyInt .u32)) u1 u1 (k := .i64) (k' := .i64) (e := 143) (bytes := 4) (zs := [.int .u32 0]) (z := 0) (by simp only [lim]; omega) (nog rfl _) rfl (by kernel_rfl) rfl (by kernel_rfl) (by kernel_rfl) (by kernel_rfl) (by kernel_rfl) rfl ?_; intro a N y j l; clear i hM0
 have b : Mem B [] w0 Z0 ((.own (tyInt .u32) 143 (sm a) u1.toNat (List.replicate u1.toNat (0 : Int))) :: (.row b1 [.bool u0.neg, .slice ao2 u0.abs.length cap3] 117) :: Rr) Z y := l; clear l
 refine s1 j 5 (.slice (sm a) (List.replicate u1.toNat (0 : Int)).length u1.toNat) ?_; intro O m; clear j
 refine nlH (h _ _ ?_); clear h v
 refine sqH ?_; intro A n
 refine bt m b 5 [1] [] [(10, .slice (sm a) (List.replicate u1.toNat (0 : Int)).length u1.toNat), (14, .slice ao2 u0.abs.length cap3)] ?_; intro P o; clear m
 refine cpy o b 0 (T := (tyInt .u32)) (xs := (List.replicate u1.toNat (0 : Int))) (ys := u0.abs) (ao := (sm a)) (cap := u1.toNat) (ao1 := (sm a)) (cap1 := u1.toNat) (ao2 := ao2) (cap2 := cap3) (sl := u0.abs.length) 0 (List.replicate u1.toNat (0 : Int)).length (e := 143) (bytes := 4) (nog rfl _) rfl (by kernel_rfl) rfl (by kernel_rfl) (by kernel_rfl) rfl (by kernel_rfl) rfl (Src.fz (by decide) b.fz hs4) (by omega) (own_at0 b 0 rfl) ?_; intro C D p q; clear o b
 have E : ((List.replicate u1.toNat (0 : Int)).take 0 ++ u0.abs.take (min u0.abs.length (List.replicate u1.toNat (0 : Int)).length) ++ (List.replicate u1.toNat (0 : Int)).drop (0 + min u0.abs.length (List.replicate u1.toNat (0 : Int)).length)).length = (List.replicate u1.toNat (0 : Int)).length := by simp; try omega
 have s : Fr 41 [] [⟨0, [], pt b1 0⟩, ⟨1, [], i6 u1⟩, ⟨5, [], .slice (sm a) ((List.replicate u1.toNat (0 : Int)).take 0 ++ u0.abs.take (min u0.abs.length (List.replicate u1.toNat (0 : Int)).length) ++ (List.replicate u1.toNat (0 : Int)).drop (0 + min u0.abs.length (List.replicate u1.toNat (0 : Int)).length)).length u1.toNat⟩, ⟨8, [], i6 u1⟩, ⟨9, [], .slice (sm a) ((List.replicate u1.toNat (0 : Int)).take 0 ++ u0.abs.take (min u0.abs.length (List.replicate u1.toNat (0 : Int)).length) ++ (List.replicate u1.toNat (0 : Int)).drop (0 + min u0.abs.length (List.replicate u1.toNat (0 : Int)).length)).length u1.toNat⟩, ⟨10, [], .slice (sm a) ((List.replicate u1.toNat (0 : Int)).take 0 ++ u0.abs.take (min u0.abs.length (List.replicate u1.toNat (0 : Int)).length) ++ (List.replicate u1.toNat (0 : Int)).drop (0 + min u0.abs.length (List.replicate u1.toNat (0 : Int)).length)).length u1.toNat⟩, ⟨14, [], .slice ao2 u0.abs.length cap3⟩, ⟨15, [], i6 ((min u0.abs.length (List.replicate u1.toNat (0 : Int)).length : Nat) : Int)⟩] C := by rw [E]; exact p.reg
 clear p
 have c : Mem B [] w0 Z0 ((.own (tyInt .u32) 143 (sm a) u1.toNat ((List.replicate u1.toNat (0 : Int)).take 0 ++ u0.abs.take (min u0.abs.length (List.replicate u1.toNat (0 : Int)).length) ++ (List.replicate u1.toNat (0 : Int)).drop (0 + min u0.abs.length (List.replicate u1.toNat (0 : Int)).length))) :: (.row b1 [.bool u0.neg, .slice ao2 u0.abs.length cap3] 117) :: Rr) Z D := q; clear q
 refine nlH (n _ _ ?_); clear n A
 refine wp_seq ?_
 refine sqB s c [1] [] [(19, .bool u0.neg)] ?_; intro Q d; clear s
 obtain ⟨F, G⟩ := x
 refine cn d F ?_
 refine wp_skip ?_
 refine thn ?_
 refine sqB d c [] [] [(4, .slice (sm a) ((List.replicate u1.toNat (0 : Int)).take 0 ++ u0.abs.take (min u0.abs.length (List.replicate u1.toNat (0 : Int)).length) ++ (List.replicate u1.toNat (0 : Int)).drop (0 + min u0.abs.length (List.replicate u1.toNat (0 : Int)).length)).length u1.toNat)] ?_; intro R H; clear d
 refine wp_ret ?_
 refine ra1 H (.slice (sm a) ((List.replicate u1.toNat (0 : Int)).take 0 ++ u0.abs.take (min u0.abs.length (List.replicate u1.toNat (0 : Int)).length) ++ (List.replicate u1.toNat (0 : Int)).drop (0 + min u0.abs.length (List.replicate u1.toNat (0 : Int)).length)).length u1.toNat) ?_
 exact ⟨(((List.replicate u1.toNat (0 : Int)).take 0 ++ u0.abs.take (min u0.abs.length (List.replicate u1.toNat (0 : Int)).length) ++ (List.replicate u1.toNat (0 : Int)).drop (0 + min u0.abs.length (List.replicate u1.toNat (0 : Int)).length)), u0), (sm a), u1.toNat, ao2, cap3, Z, rfl, G, t, hs4, c.keep (List.Sublist.cons_cons _ (List.Sublist.cons_cons _ (List.Sublist.refl _)))⟩

theorem guint64_walk (u0 : BInt) (b1 : Nat) (ao2 : Option Addr) (cap3 : Nat) (B : Nat) (w0 : World) (Z0 : Fz) (Rr : List Res) (Z : Fz) (w : World) (hs4 : SlR (tyInt .u32) Z ao2 cap3 u0.abs) (hM0 : Mem B [] w0 Z0 ((.row b1 [.bool u0.neg, .slice ao2 u0.abs.length cap3] 117) :: Rr) Z w) (hZ : Z.on w) {K : (Int × BInt) → Prop} (hp : guint64_vc u0 K) : Calls Tryz.prog 109 #[pt b1 0] w fun e w' => ∃ (r : Int × BInt) (ao1001 : Option Addr) (cap1002 : Nat) (Z' : Fz), e = .returned (y6 r.1) ∧ K r ∧ Fz.le Z Z' ∧ SlR (tyInt .u32) Z' ao1001 cap1002 r.2.abs ∧ Mem B [] w0 Z0 ((.row b1 [.bool r.2.neg, .slice ao1001 r.2.abs.length cap1002] 117) :: Rr) Z' w' := by
 refine enter0 Tryz.func109 rfl rfl (by kernel_rfl) ?_; intro a0 p; have h := Fz.le.refl Z
 have i := hp (hs4.small); clear hp
 refine sqB p hM0 [] [] [] ?_; intro a7 q; clear p
 refine sqB q hM0 [] [] [(3, y6 0)] ?_; intro aw s; clear q
 refine wp_seq ?_
 refine sqB s hM0 [0] [] [(9, .bool (decide ((u0.abs.length : Int) > 0)))] ?_; intro ax d; clear s
 refine cd d (t := decide ((u0.abs.length : Int) > 0)) (by kernel_rfl) (fun m => ?_) (fun m => ?_)
 ·
  have P := i.1 m; clear i
  refine rgH ?_; intro Q u
  refine bt d hM0 4 [0] [] [(13, .slice ao2 u0.abs.length cap3)] ?_; intro ay v; clear d
  obtain ⟨R, x⟩ := P
  refine ix v (T := (tyInt .u32)) (xs := u0.abs) hs4 (0 : Int) R (k := .i64) (e := 143) (bytes := 4) (nog rfl _) rfl (by kernel_rfl) rfl (by kernel_rfl) (by kernel_rfl) (by kernel_rfl) ?_; intro az aA S a aB U V W y; clear v
  have j := x a U; clear x
  obtain rfl : S = ([.int .u32 a] : List Value) := W
  refine z1 y hM0 15 V 0 (.int .u32 a) rfl ?_; intro aC z; clear y
  refine bt z hM0 2 [] [] [(3, y6 (wu64 a))] ?_; intro aD A; clear z
  refine nlH (u _ _ ?_); clear u Q
  refine thn ?_
  refine wp_seq ?_
  refine sqB A hM0 [0] [] [(22, .bool (decide ((u0.abs.length : Int) > 1)))] ?_; intro aE f; clear A
  refine cd f (t := decide ((u0.abs.length : Int) > 1)) (by kernel_rfl) (fun n => ?_) (fun n => ?_)
  ·
   have X := j.1 n; clear j
   refine rgH ?_; intro Y C
   refine bt f hM0 5 [0] [] [(23, y6 (wu64 a)), (27, .slice ao2 u0.abs.length cap3)] ?_; intro aF D; clear f
   obtain ⟨aa, E⟩ := X
   refine ix D (T := (tyInt .u32)) (xs := u0.abs) hs4 (1 : Int) aa (k := .i64) (e := 143) (bytes := 4) (nog rfl _) rfl (by kernel_rfl) rfl (by kernel_rfl) (by kernel_rfl) (by kernel_rfl) ?_; intro aG aH ab b aI ac ad ae F; clear D
   have af := E b ac; clear E
   obtain rfl : ab = ([.int .u32 b] : List Value) := ae
   refine z1 F hM0 29 ad 0 (.int .u32 b) rfl ?_; intro aJ G; clear F
   refine bt G hM0 4 [] [] [(3, y6 (bOr .u64 (wu64 a) (bShl .u64 (wu64 b) 32)))] ?_; intro aK H; clear G
   refine nlH (C _ _ ?_); clear C Y
   refine thn ?_
   refine sqB H hM0 [] [] [(2, y6 (bOr .u64 (wu64 a) (bShl .u64 (wu64 b) 32)))] ?_; intro aL ag; clear H
   refine wp_ret ?_
   refine ra1 ag (y6 (bOr .u64 (wu64 a) (bShl .u64 (wu64 b) 32))) ?_
   exact ⟨(bOr .u64 (wu64 a) (bShl .u64 (wu64 b) 32), u0), ao2, cap3, Z, rfl, af, h, hs4, hM0.keep (List.Sublist.cons_cons _ (List.Sublist.refl _))⟩
  have ah := j.2 n; clear j
  refine wp_skip ?_
  refine thn ?_
  refine sqB f hM0 [] [] [(2, y6 (wu64 a))] ?_; intro aM ai; clear f
  refine wp_ret ?_
  refine ra1 ai (y6 (wu64 a)) ?_
  exact ⟨(wu64 a, u0), ao2, cap3, Z, rfl, ah, h, hs4, hM0.keep (List.Sublist.cons_cons _ (List.Sublist.refl _))⟩
 have l := i.2 m; clear i
 refine wp_skip ?_
 refine thn ?_
 refine wp_seq ?_
 refine sqB d hM0 [0] [] [(22, .bool (decide ((u0.abs.length : Int) > 1)))] ?_; intro aN g; clear d
 refine cd g (t := decide ((u0.abs.length : Int) > 1)) (by kernel_rfl) (fun o => ?_) (fun o => ?_)
 ·
  have aj := l.1 o; clear l
  refine rgH ?_; intro ak I
  refine bt g hM0 5 [0] [] [(23, y6 0), (27, .slice ao2 u0.abs.length cap3)] ?_; intro aO J; clear g
  obtain ⟨al, L⟩ := aj
  refine ix J (T := (tyInt .u32)) (xs := u0.abs) hs4 (1 : Int) al (k := .i64) (e := 143) (bytes := 4) (nog rfl _) rfl (by kernel_rfl) rfl (by kernel_rfl) (by kernel_rfl) (by kernel_rfl) ?_; intro aP aQ am c aR an ao ap M; clear J
  have aq := L c an; clear L
  obtain rfl : am = ([.int .u32 c] : List Value) := ap
  refine z1 M hM0 29 ao 0 (.int .u32 c) rfl ?_; intro aS N; clear M
  refine bt N hM0 4 [] [] [(3, y6 (bOr .u64 0 (bShl .u64 (wu64 c) 32)))] ?_; intro aT O; clear N
  refine nlH (I _ _ ?_); clear I ak
  refine thn ?_
  refine sqB O hM0 [] [] [(2, y6 (bOr .u64 0 (bShl .u64 (wu64 c) 32)))] ?_; intro aU ar; clear O
  refine wp_ret ?_
  refine ra1 ar (y6 (bOr .u64 0 (bShl .u64 (wu64 c) 32))) ?_
  exact ⟨(bOr .u64 0 (bShl .u64 (wu64 c) 32), u0), ao2, cap3, Z, rfl, aq, h, hs4, hM0.keep (List.Sublist.cons_cons _ (List.Sublist.refl _))⟩
 have au := l.2 o; clear l
 refine wp_skip ?_
 refine thn ?_
 refine sqB g hM0 [] [] [(2, y6 0)] ?_; intro aV av; clear g
 refine wp_ret ?_
 refine ra1 av (y6 0) ?_
 exact ⟨(0, u0), ao2, cap3, Z, rfl, au, h, hs4, hM0.keep (List.Sublist.cons_cons _ (List.Sublist.refl _))⟩

end Go.Proofs.YtmbdcehmeiiaoaaGreatDoor
set_option linter.unusedVariables false
set_option linter.unusedSimpArgs false
set_option maxRecDepth 100000
set_option maxHeartbeats 0
namespace Go.Proofs.YtmbdcehmeiiaoaaGreatDoor
open Go.Sy Go.RowKit
theorem gtwin_fun (u0 : List Int) (hpre : u0.length ≤ 1000000) (ao1 : Option Addr) (cap2 : Nat) (Z : Fz) (w : World) (hs3 : SlR (tyInt .u32) Z ao1 cap2 u0) (hZ : Z.on w) : Calls Tryz.prog 127 #[.slice ao1 u0.length cap2] w fun e w' => ∃ (ao1001 : Option Addr) (cap1002 : Nat) (Z' : Fz), e = .returned (.slice ao1001 (gtwinS u0).length cap1002) ∧ Mem w.heap.size [] w Z [.own (tyInt .u32) 143 ao1001 cap1002 (gtwinS u0)] Z' w' :=
  (gtwin_walk u0 ao1 cap2 Z w hs3 hZ (gtwin_ok u0 hpre)).mono fun _ _ ⟨r, h0, h1, h2, he, hk, hm⟩ => by subst hk; exact ⟨h0, h1, h2, he, hm⟩

theorem gwords_fun (u0 : Int) (hpre : 0 ≤ u0 ∧ u0 ≤ 18446744073709551615)  (Z : Fz) (w : World)  (hZ : Z.on w) : Calls Tryz.prog 125 #[y6 u0] w fun e w' => ∃ (ao1001 : Option Addr) (cap1002 : Nat) (Z' : Fz), e = .returned (.slice ao1001 (gwordsS u0).length cap1002) ∧ SlR (tyInt .u32) Z' ao1001 cap1002 (gwordsS u0) ∧ Mem w.heap.size [] w Z [] Z' w' :=
  (gwords_walk u0  Z w  hZ (gwords_ok u0 hpre)).mono fun _ _ ⟨r, h0, h1, h2, he, hk, f0, hm⟩ => by subst hk; exact ⟨h0, h1, h2, he, f0, hm⟩

theorem gadd_fun (u0 : List Int) (u1 : List Int) (hpre : wok u0 ∧ wok u1 ∧ u0.length ≤ 1000000 ∧ u1.length ≤ 1000000) (ao1 : Option Addr) (cap2 : Nat) (ao4 : Option Addr) (cap5 : Nat) (Z : Fz) (w : World) (hs3 : SlR (tyInt .u32) Z ao1 cap2 u0) (hs6 : SlR (tyInt .u32) Z ao4 cap5 u1) (hZ : Z.on w) : Calls Tryz.prog 123 #[.slice ao1 u0.length cap2, .slice ao4 u1.length cap5] w fun e w' => ∃ (ao1001 : Option Addr) (cap1002 : Nat) (Z' : Fz), e = .returned (.slice ao1001 (gaddS u0 u1).length cap1002) ∧ SlR (tyInt .u32) Z' ao1001 cap1002 (gaddS u0 u1) ∧ Mem w.heap.size [] w Z [] Z' w' :=
  (gadd_walk u0 u1 ao1 cap2 ao4 cap5 Z w hs3 hs6 hZ (gadd_ok u0 u1 hpre)).mono fun _ _ ⟨r, h0, h1, h2, he, hk, f0, hm⟩ => by subst hk; exact ⟨h0, h1, h2, he, f0, hm⟩

theorem gmul_fun (u0 : List Int) (u1 : List Int) (hpre : wok u0 ∧ wok u1 ∧ u0.length ≤ 1000 ∧ u1.length ≤ 1000) (ao1 : Option Addr) (cap2 : Nat) (ao4 : Option Addr) (cap5 : Nat) (Z : Fz) (w : World) (hs3 : SlR (tyInt .u32) Z ao1 cap2 u0) (hs6 : SlR (tyInt .u32) Z ao4 cap5 u1) (hZ : Z.on w) : Calls Tryz.prog 124 #[.slice ao1 u0.length cap2, .slice ao4 u1.length cap5] w fun e w' => ∃ (ao1001 : Option Addr) (cap1002 : Nat) (Z' : Fz), e = .returned (.slice ao1001 (gmulS u0 u1).length cap1002) ∧ SlR (tyInt .u32) Z' ao1001 cap1002 (gmulS u0 u1) ∧ Mem w.heap.size [] w Z [] Z' w' :=
  (gmul_walk u0 u1 ao1 cap2 ao4 cap5 Z w hs3 hs6 hZ (gmul_ok u0 u1 hpre)).mono fun _ _ ⟨r, h0, h1, h2, he, hk, f0, hm⟩ => by subst hk; exact ⟨h0, h1, h2, he, f0, hm⟩

theorem gleft_fun (u0 : List Int) (u1 : Int) (hpre : wok u0 ∧ u0.length ≤ 1000 ∧ 0 ≤ u1 ∧ u1 ≤ 100000) (ao1 : Option Addr) (cap2 : Nat) (Z : Fz) (w : World) (hs3 : SlR (tyInt .u32) Z ao1 cap2 u0) (hZ : Z.on w) : Calls Tryz.prog 103 #[.slice ao1 u0.length cap2, y6 u1] w fun e w' => ∃ (ao1001 : Option Addr) (cap1002 : Nat) (Z' : Fz), e = .returned (.slice ao1001 (gleftS u0 u1).length cap1002) ∧ SlR (tyInt .u32) Z' ao1001 cap1002 (gleftS u0 u1) ∧ Mem w.heap.size [] w Z [] Z' w' :=
  (gleft_walk u0 u1 ao1 cap2 Z w hs3 hZ (gleft_ok u0 u1 hpre)).mono fun _ _ ⟨r, h0, h1, h2, he, hk, f0, hm⟩ => by subst hk; exact ⟨h0, h1, h2, he, f0, hm⟩

theorem glow_fun (u0 : BInt) (u1 : Int) (hpre : u0.neg = false ∧ (u0.abs.length : Int) ≤ u1 ∧ u1 ≤ 1000000) (b1 : Nat) (ao2 : Option Addr) (cap3 : Nat) (B : Nat) (w0 : World) (Z0 : Fz) (Rr : List Res) (Z : Fz) (w : World) (hs4 : SlR (tyInt .u32) Z ao2 cap3 u0.abs) (hM0 : Mem B [] w0 Z0 ((.row b1 [.bool u0.neg, .slice ao2 u0.abs.length cap3] 117) :: Rr) Z w) (hZ : Z.on w) : Calls Tryz.prog 105 #[pt b1 0, i6 u1] w fun e w' => ∃ (ao1001 : Option Addr) (cap1002 : Nat) (ao1003 : Option Addr) (cap1004 : Nat) (Z' : Fz), e = .returned (.slice ao1001 (glowS u0 u1).1.length cap1002) ∧ Fz.le Z Z' ∧ SlR (tyInt .u32) Z' ao1003 cap1004 (glowS u0 u1).2.abs ∧ Mem B [] w0 Z0 ((.own (tyInt .u32) 143 ao1001 cap1002 (glowS u0 u1).1) :: (.row b1 [.bool (glowS u0 u1).2.neg, .slice ao1003 (glowS u0 u1).2.abs.length cap1004] 117) :: Rr) Z' w' :=
  (glow_walk u0 u1 b1 ao2 cap3 B w0 Z0 Rr Z w hs4 hM0 hZ (glow_ok u0 u1 hpre)).mono fun _ _ ⟨r, h0, h1, h2, h3, h4, he, hk, f0, f1, hm⟩ => by subst hk; exact ⟨h0, h1, h2, h3, h4, he, f0, f1, hm⟩

theorem guint64_fun (u0 : BInt) (hpre : wok u0.abs) (b1 : Nat) (ao2 : Option Addr) (cap3 : Nat) (B : Nat) (w0 : World) (Z0 : Fz) (Rr : List Res) (Z : Fz) (w : World) (hs4 : SlR (tyInt .u32) Z ao2 cap3 u0.abs) (hM0 : Mem B [] w0 Z0 ((.row b1 [.bool u0.neg, .slice ao2 u0.abs.length cap3] 117) :: Rr) Z w) (hZ : Z.on w) : Calls Tryz.prog 109 #[pt b1 0] w fun e w' => ∃ (ao1001 : Option Addr) (cap1002 : Nat) (Z' : Fz), e = .returned (y6 (guint64S u0).1) ∧ Fz.le Z Z' ∧ SlR (tyInt .u32) Z' ao1001 cap1002 (guint64S u0).2.abs ∧ Mem B [] w0 Z0 ((.row b1 [.bool (guint64S u0).2.neg, .slice ao1001 (guint64S u0).2.abs.length cap1002] 117) :: Rr) Z' w' :=
  (guint64_walk u0 b1 ao2 cap3 B w0 Z0 Rr Z w hs4 hM0 hZ (guint64_ok u0 hpre)).mono fun _ _ ⟨r, h0, h1, h2, he, hk, f0, f1, hm⟩ => by subst hk; exact ⟨h0, h1, h2, he, f0, f1, hm⟩

theorem gof_walk (u0 : BInt) (u1 : List Int) (b1 : Nat) (ao2 : Option Addr) (cap3 : Nat) (ao5 : Option Addr) (cap6 : Nat) (B : Nat) (w0 : World) (Z0 : Fz) (Rr : List Res) (Z : Fz) (w : World) (hs4 : SlR (tyInt .u32) Z ao2 cap3 u0.abs) (hM0 : Mem B [] w0 Z0 ((.row b1 [.bool u0.neg, .slice ao2 u0.abs.length cap3] 117) :: (.own (tyInt .u32) 143 ao5 cap6 u1) :: Rr) Z w) (hZ : Z.on w) {K : BInt → Prop} (hp : gof_vc u0 u1 K) : Calls Tryz.prog 106 #[pt b1 0, .slice ao5 u1.length cap6] w fun e w' => ∃ (r : BInt) (ao1001 : Option Addr) (cap1002 : Nat) (Z' : Fz), e = .returned (pt b1 0) ∧ K r ∧ Fz.le Z Z' ∧ SlR (tyInt .u32) Z' ao1001 cap1002 r.abs ∧ Mem B [] w0 Z0 ((.row b1 [.bool r.neg, .slice ao1001 r.abs.length cap1002] 117) :: Rr) Z' w' := by
 refine enter0 Tryz.func106 rfl rfl (by kernel_rfl) ?_; intro a0 J; have a := Fz.le.refl Z
 have L := hp (hs4.small); clear hp
 have j := L (hM0.ownSmall 1 rfl); clear L
 refine sqB J hM0 [] [] [] ?_; intro a6 M; clear J
 refine wp_seq ?_
 refine sqH ?_; intro N l
 refine bt M hM0 4 [] [] [(10, .bool (decide ((u1.length : Int) > 0)))] ?_; intro a7 m; clear M
 rcases Bool.eq_false_or_eq_true (decide ((u1.length : Int) > 0)) with g | g
 ·
  have aE := j.1 g; clear j
  have O := m.reval (d := 10) (c := []) (v := .bool (decide ((u1.length : Int) > 0))) (by kernel_rfl) (.bool true) (by rw [g]); clear m
  refine bt O hM0 4 [] [11, 12, 13, 14] [(11, .slice ao5 u1.length cap6), (14, i6 (w64 ((u1.length : Int) - 1)))] ?_; intro a8 s; clear O
  obtain ⟨aF, P⟩ := aE
  refine ixo s hM0 1 (T := (tyInt .u32)) (xs := u1) (w64 ((u1.length : Int) - 1)) aF (k := .i64) (e := 143) (bytes := 4) (by rw [wanted_of s (b := true) rfl rfl (by kernel_rfl) (by kernel_rfl)]; rfl) rfl (by kernel_rfl) rfl (by kernel_rfl) (by kernel_rfl) rfl (by kernel_rfl) ?_; intro t a9 aG u; clear s
  subst aG
  obtain ⟨x, aH, aI⟩ := gxq P (by first | omega | (simp only [List.length_set] at *; omega)); clear P
  obtain ⟨aJ, aK, aL⟩ := own_el hM0 1 (T := (tyInt .u32)) (xs := u1) rfl (w64 ((u1.length : Int) - 1)).toNat aH
  obtain rfl : aJ = ([.int .u32 x] : List Value) := aK
  refine lc1 u 16 (.int .u32 x) (aL 0 _ rfl) rfl ?_ (hw := (by rw [wanted_of u (b := true) rfl rfl (by kernel_rfl) (by kernel_rfl)]; rfl)); intro ba Q; clear u
  refine bt Q hM0 3 [] [17, 18, 19] [(19, .bool ((bShr .u32 x 31) == 1))] ?_; intro bb y; clear Q
  refine nlH (l _ _ ?_); clear l N
  obtain ⟨aM, R⟩ := aI
  refine cn y aM ?_
  refine wp_skip ?_
  refine thn ?_
  refine sqH ?_; intro aN S
  refine bt y hM0 2 [] [] [(45, pt b1 0), (46, .slice (sm t) u1.length cap6)] ?_; intro bc U; clear y
  obtain ⟨aO, V, W, h⟩ := hM0.freeze 1 rfl
  replace hs4 := hs4.mono V
  replace a := Fz.le.trans a V
  have z : Mem B [] w0 Z0 ((.row b1 [.bool u0.neg, .slice ao2 u0.abs.length cap3] 117) :: Rr) aO w := W; clear W
  refine ck U 126 #[.slice (sm t) u1.length cap6] ?_
  refine (gtrim_fun u1 (sm t) cap6 _ _ h z.fz).mono ?_; rintro _ aP ⟨X, Y, aQ, rfl, n, hm⟩; refine ⟨_, rfl, ?_⟩; intro bd aa; have ab := z.callZ hm; have A := hm.ext.le; clear hm z U
  replace hs4 := hs4.mono A
  replace h := h.mono A
  replace a := Fz.le.trans a A
  have C : Mem B [] w0 Z0 ((.row b1 [.bool u0.neg, .slice ao2 u0.abs.length cap3] 117) :: Rr) aQ aP := ab; clear ab
  have ac := R (n.small); clear R
  refine ck aa 102 #[pt b1 0, .bool false, .slice X (gtrimS u1).length Y] ?_
  obtain ⟨D, aR, ad⟩ := hxq ac; clear ac
  have f := ggive_fun u0 false (gtrimS u1) b1 ao2 cap3 X Y _ _ _ _ _ _ hs4 n C C.fz; rw [aR] at f; refine f.mono ?_; clear f; rintro _ aS ⟨ae, af, ag, rfl, o, ah, hm⟩; refine ⟨_, rfl, ?_⟩; intro be ai; have aj := hm; clear hm C aa
  replace hs4 := hs4.mono o
  replace h := h.mono o
  replace n := n.mono o
  replace a := Fz.le.trans a o
  have aT : Mem B [] w0 Z0 ((.row b1 [.bool D.neg, .slice ae D.abs.length af] 117) :: Rr) ag aS := aj; clear aj
  have aU := ad (ah.small); clear ad
  refine s1 ai 4 (pt b1 0) ?_; intro bf aV; clear ai
  refine nlH (S _ _ ?_); clear S aN
  refine wp_ret ?_
  refine ra1 aV (pt b1 0) ?_
  exact ⟨D, ae, af, ag, rfl, aU, a, ah, aT.keep (List.Sublist.cons_cons _ (List.Sublist.refl _))⟩
 have ak := j.2 g; clear j
 have al := m.reval (d := 10) (c := []) (v := .bool (decide ((u1.length : Int) > 0))) (by kernel_rfl) (.bool false) (by rw [g]); clear m
 refine bt al hM0 9 [] [11, 12, 13, 14, 15, 16, 17, 18, 19] [(19, .bool false)] ?_; intro bg E; clear al
 refine nlH (l _ _ ?_); clear l N
 refine cdF E (by kernel_rfl) ?_
 refine wp_skip ?_
 refine thn ?_
 refine sqH ?_; intro aW am
 refine bt E hM0 2 [] [] [(45, pt b1 0), (46, .slice ao5 u1.length cap6)] ?_; intro bh an; clear E
 obtain ⟨aX, ao, ap, i⟩ := hM0.freeze 1 rfl
 replace hs4 := hs4.mono ao
 replace a := Fz.le.trans a ao
 have F : Mem B [] w0 Z0 ((.row b1 [.bool u0.neg, .slice ao2 u0.abs.length cap3] 117) :: Rr) aX w := ap; clear ap
 refine ck an 126 #[.slice ao5 u1.length cap6] ?_
 refine (gtrim_fun u1 ao5 cap6 _ _ i F.fz).mono ?_; rintro _ aY ⟨aq, ar, aZ, rfl, p, hm⟩; refine ⟨_, rfl, ?_⟩; intro bi au; have av := F.callZ hm; have G := hm.ext.le; clear hm F an
 replace hs4 := hs4.mono G
 replace i := i.mono G
 replace a := Fz.le.trans a G
 have H : Mem B [] w0 Z0 ((.row b1 [.bool u0.neg, .slice ao2 u0.abs.length cap3] 117) :: Rr) aZ aY := av; clear av
 have aw := ak (p.small); clear ak
 refine ck au 102 #[pt b1 0, .bool false, .slice aq (gtrimS u1).length ar] ?_
 obtain ⟨I, a1, ax⟩ := hxq aw; clear aw
 have f := ggive_fun u0 false (gtrimS u1) b1 ao2 cap3 aq ar _ _ _ _ _ _ hs4 p H H.fz; rw [a1] at f; refine f.mono ?_; clear f; rintro _ a2 ⟨ay, az, aA, rfl, q, aB, hm⟩; refine ⟨_, rfl, ?_⟩; intro bj aC; have aD := hm; clear hm H au
 replace hs4 := hs4.mono q
 replace i := i.mono q
 replace p := p.mono q
 replace a := Fz.le.trans a q
 have a3 : Mem B [] w0 Z0 ((.row b1 [.bool I.neg, .slice ay I.abs.length az] 117) :: Rr) aA a2 := aD; clear aD
 have a4 := ax (aB.small); clear ax
 refine s1 aC 4 (pt b1 0) ?_; intro bk a5; clear aC
 refine nlH (am _ _ ?_); clear am aW
 refine wp_ret ?_
 refine ra1 a5 (pt b1 0) ?_
 exact ⟨I, ay, az, aA, rfl, a4, a, aB, a3.keep (List.Sublist.cons_cons _ (List.Sublist.refl _))⟩

theorem gseti_walk (u0 : BInt) (u1 : Int) (b1 : Nat) (ao2 : Option Addr) (cap3 : Nat) (B : Nat) (w0 : World) (Z0 : Fz) (Rr : List Res) (Z : Fz) (w : World) (hs4 : SlR (tyInt .u32) Z ao2 cap3 u0.abs) (hM0 : Mem B [] w0 Z0 ((.row b1 [.bool u0.neg, .slice ao2 u0.abs.length cap3] 117) :: Rr) Z w) (hZ : Z.on w) {K : BInt → Prop} (hp : gseti_vc u0 u1 K) : Calls Tryz.prog 104 #[pt b1 0, i6 u1] w fun e w' => ∃ (r : BInt) (ao1001 : Option Addr) (cap1002 : Nat) (Z' : Fz), e = .returned (pt b1 0) ∧ K r ∧ Fz.le Z Z' ∧ SlR (tyInt .u32) Z' ao1001 cap1002 r.abs ∧ Mem B [] w0 Z0 ((.row b1 [.bool r.neg, .slice ao1001 r.abs.length cap1002] 117) :: Rr) Z' w' := by
 refine enter0 Tryz.func104 rfl rfl (by kernel_rfl) ?_; intro a0 o; have a := Fz.le.refl Z
 have d := hp (hs4.small); clear hp
 refine sqB o hM0 [] [] [] ?_; intro a7 p; clear o
 refine sqB p hM0 [] [] [(5, y6 (wu64 u1))] ?_; intro aA q; clear p
 refine wp_seq ?_
 refine sqB q hM0 [] [] [(9, .bool (decide (u1 < 0)))] ?_; intro aB c; clear q
 refine cd c (t := decide (u1 < 0)) (by kernel_rfl) (fun h => ?_) (fun h => ?_)
 ·
  have ae := d.1 h; clear d
  refine rgB c hM0 [] [] [(5, y6 (wu64 (0 - (wu64 u1))))] ?_; intro aC s; clear c
  refine thn ?_
  refine sqH ?_; intro af u
  refine bt s hM0 4 [] [] [(12, pt b1 0), (14, .bool (decide (u1 < 0))), (15, y6 (wu64 (0 - (wu64 u1))))] ?_; intro aD v; clear s
  obtain ⟨ag, x⟩ := ae
  refine ck v 125 #[y6 (wu64 (0 - (wu64 u1)))] ?_
  refine (gwords_fun (wu64 (0 - (wu64 u1))) ag _ _ hM0.fz).mono ?_; rintro _ ah ⟨y, z, ai, rfl, f, hm⟩; refine ⟨_, rfl, ?_⟩; intro aE A; have C := hM0.callZ hm; have D := hm.ext.le; clear hm hM0 v
  replace hs4 := hs4.mono D
  replace a := Fz.le.trans a D
  have i : Mem B [] w0 Z0 ((.row b1 [.bool u0.neg, .slice ao2 u0.abs.length cap3] 117) :: Rr) ai ah := C; clear C
  have E := x (f.small); clear x
  refine ck A 102 #[pt b1 0, .bool (decide (u1 < 0)), .slice y (gwordsS (wu64 (0 - (wu64 u1)))).length z] ?_
  obtain ⟨j, aj, F⟩ := hxq E; clear E
  have b := ggive_fun u0 (decide (u1 < 0)) (gwordsS (wu64 (0 - (wu64 u1)))) b1 ao2 cap3 y z _ _ _ _ _ _ hs4 f i i.fz; rw [aj] at b; refine b.mono ?_; clear b; rintro _ ak ⟨G, H, I, rfl, k, J, hm⟩; refine ⟨_, rfl, ?_⟩; intro aF L; have M := hm; clear hm i A
  replace hs4 := hs4.mono k
  replace f := f.mono k
  replace a := Fz.le.trans a k
  have al : Mem B [] w0 Z0 ((.row b1 [.bool j.neg, .slice G j.abs.length H] 117) :: Rr) I ak := M; clear M
  have am := F (J.small); clear F
  refine s1 L 4 (pt b1 0) ?_; intro aG an; clear L
  refine nlH (u _ _ ?_); clear u af
  refine wp_ret ?_
  refine ra1 an (pt b1 0) ?_
  exact ⟨j, G, H, I, rfl, am, a, J, al.keep (List.Sublist.cons_cons _ (List.Sublist.refl _))⟩
 have ao := d.2 h; clear d
 refine wp_skip ?_
 refine thn ?_
 refine sqH ?_; intro ap N
 refine bt c hM0 4 [] [] [(12, pt b1 0), (14, .bool (decide (u1 < 0))), (15, y6 (wu64 u1))] ?_; intro aH O; clear c
 obtain ⟨aq, P⟩ := ao
 refine ck O 125 #[y6 (wu64 u1)] ?_
 refine (gwords_fun (wu64 u1) aq _ _ hM0.fz).mono ?_; rintro _ ar ⟨Q, R, au, rfl, g, hm⟩; refine ⟨_, rfl, ?_⟩; intro aI S; have T := hM0.callZ hm; have U := hm.ext.le; clear hm hM0 O
 replace hs4 := hs4.mono U
 replace a := Fz.le.trans a U
 have l : Mem B [] w0 Z0 ((.row b1 [.bool u0.neg, .slice ao2 u0.abs.length cap3] 117) :: Rr) au ar := T; clear T
 have V := P (g.small); clear P
 refine ck S 102 #[pt b1 0, .bool (decide (u1 < 0)), .slice Q (gwordsS (wu64 u1)).length R] ?_
 obtain ⟨m, av, W⟩ := hxq V; clear V
 have b := ggive_fun u0 (decide (u1 < 0)) (gwordsS (wu64 u1)) b1 ao2 cap3 Q R _ _ _ _ _ _ hs4 g l l.fz; rw [av] at b; refine b.mono ?_; clear b; rintro _ aw ⟨X, Y, aa, rfl, n, ab, hm⟩; refine ⟨_, rfl, ?_⟩; intro aJ ac; have ad := hm; clear hm l S
 replace hs4 := hs4.mono n
 replace g := g.mono n
 replace a := Fz.le.trans a n
 have ax : Mem B [] w0 Z0 ((.row b1 [.bool m.neg, .slice X m.abs.length Y] 117) :: Rr) aa aw := ad; clear ad
 have ay := W (ab.small); clear W
 refine s1 ac 4 (pt b1 0) ?_; intro aK az; clear ac
 refine nlH (N _ _ ?_); clear N ap
 refine wp_ret ?_
 refine ra1 az (pt b1 0) ?_
 exact ⟨m, X, Y, aa, rfl, ay, a, ab, ax.keep (List.Sublist.cons_cons _ (List.Sublist.refl _))⟩

theorem glsh_walk (u0 : BInt) (u1 : BInt) (u2 : Int) (b1 : Nat) (ao2 : Option Addr) (cap3 : Nat) (b5 : Nat) (ao6 : Option Addr) (cap7 : Nat) (B : Nat) (w0 : World) (Z0 : Fz) (Rr : List Res) (Z : Fz) (w : World) (hs4 : SlR (tyInt .u32) Z ao2 cap3 u0.abs) (hs8 : SlR (tyInt .u32) Z ao6 cap7 u1.abs) (hM0 : Mem B [] w0 Z0 ((.row b1 [.bool u0.neg, .slice ao2 u0.abs.length cap3] 117) :: (.row b5 [.bool u1.neg, .slice ao6 u1.abs.length cap7] 117) :: Rr) Z w) (hZ : Z.on w) {K : (BInt × BInt) → Prop} (hp : glsh_vc u0 u1 u2 K) : Calls Tryz.prog 80 #[pt b1 0, pt b5 0, y6 u2] w fun e w' => ∃ (r : BInt × BInt) (ao1001 : Option Addr) (cap1002 : Nat) (ao1004 : Option Addr) (cap1005 : Nat) (Z' : Fz), e = .returned (pt b1 0) ∧ K r ∧ Fz.le Z Z' ∧ SlR (tyInt .u32) Z' ao1001 cap1002 r.1.abs ∧ SlR (tyInt .u32) Z' ao1004 cap1005 r.2.abs ∧ Mem B [] w0 Z0 ((.row b1 [.bool r.1.neg, .slice ao1001 r.1.abs.length cap1002] 117) :: (.row b5 [.bool r.2.neg, .slice ao1004 r.2.abs.length cap1005] 117) :: Rr) Z' w' := by
 refine enter0 Tryz.func80 rfl rfl (by kernel_rfl) ?_; intro Q i; have b := Fz.le.refl Z
 have j := hp (hs4.small); clear hp
 have D := j (hs8.small); clear j
 refine sqB i hM0 [] [] [] ?_; intro E k; clear i
 have l : Fr 19 [] [⟨0, [], pt b1 0⟩, ⟨1, [], pt b5 0⟩, ⟨2, [], y6 u2⟩] E := k.reg; clear k
 refine wp_seq (rgS mixed hM0 [(0, true), (1, true), (2, true), (3, true), (4, true), (5, true), (6, true), (7, true), (8, true), (9, true), (10, false), (11, false), (12, true)] [] [1] [.row b5 [.bool u1.neg, .slice ao6 u1.abs.length cap7] 117] ?_)
 intro F m R g; clear hM0
 have a := Fz.le.refl Z
 refine cS l 10 [0, 0] [] [(7, pt b1 0), (11, .bool u1.neg), (15, .slice ao6 u1.abs.length cap7), (16, y6 u2)] ?_; intro S n; clear l
 refine eS rfl ?_; intro G o
 obtain ⟨H, I⟩ := D
 refine ck n 103 #[.slice ao6 u1.abs.length cap7, y6 u2] ?_
 refine (gleft_fun u1.abs u2 H ao6 cap7 _ _ hs8 g.fz).mono ?_; rintro _ J ⟨p, q, L, rfl, h, hm⟩; refine ⟨_, rfl, ?_⟩; intro T s; have t := g.callZ hm; have d := hm.ext.le; clear hm g n
 replace hs4 := hs4.mono d
 replace hs8 := hs8.mono d
 replace a := a.mono d
 replace b := Fz.le.trans b d
 have f : Mem B [] w0 Z0 ((.row b1 [.bool u0.neg, .slice ao2 u0.abs.length cap3] 117) :: (.row b5 [.bool u1.neg, .slice ao6 u1.abs.length cap7] 117) :: Rr) L J := t; clear t
 refine nl (qnI (o _ _ (f.cst a [1]) ?_)); clear o G
 refine eS rfl ?_; intro M u
 refine ck s 102 #[pt b1 0, .bool u1.neg, .slice p (gleftS u1.abs u2).length q] ?_
 refine (ggive_fun u0 u1.neg (gleftS u1.abs u2) b1 ao2 cap3 p q _ _ _ _ _ _ hs4 h f f.fz).mono ?_; rintro _ N ⟨v, x, y, rfl, c, O, hm⟩; refine ⟨_, rfl, ?_⟩; intro U z; have A := hm; clear hm f s
 replace hs4 := hs4.mono c
 replace hs8 := hs8.mono c
 replace a := a.mono c
 replace h := h.mono c
 replace b := Fz.le.trans b c
 have C : Mem B [] w0 Z0 ((.row b1 [.bool (ggive u0 u1.neg (gleftS u1.abs u2)).neg, .slice v (ggive u0 u1.neg (gleftS u1.abs u2)).abs.length x] 117) :: (.row b5 [.bool u1.neg, .slice ao6 u1.abs.length cap7] 117) :: Rr) y N := A; clear A
 refine nl (qnI (u _ _ (C.cst a [1]) ?_)); clear u M
 refine cS z 1 [] [] [(6, pt b1 0)] ?_; intro V P; clear z
 refine nS (m _ _ ?_); clear m F
 refine thn ?_
 refine wp_ret ?_
 refine ra1 P (pt b1 0) ?_
 exact ⟨((ggive u0 u1.neg (gleftS u1.abs u2)), u1), v, x, ao6, cap7, y, rfl, I, b, O, hs8, C.keep (List.Sublist.cons_cons _ (List.Sublist.cons_cons _ (List.Sublist.refl _)))⟩

theorem glshA_walk (u0 : BInt) (u2 : Int) (b1 : Nat) (ao2 : Option Addr) (cap3 : Nat) (B : Nat) (w0 : World) (Z0 : Fz) (Rr : List Res) (Z : Fz) (w : World) (hs4 : SlR (tyInt .u32) Z ao2 cap3 u0.abs) (hM0 : Mem B [] w0 Z0 ((.row b1 [.bool u0.neg, .slice ao2 u0.abs.length cap3] 117) :: Rr) Z w) (hZ : Z.on w) {K : BInt → Prop} (hp : glshA_vc u0 u2 K) : Calls Tryz.prog 80 #[pt b1 0, pt b1 0, y6 u2] w fun e w' => ∃ (r : BInt) (ao1001 : Option Addr) (cap1002 : Nat) (Z' : Fz), e = .returned (pt b1 0) ∧ K r ∧ Fz.le Z Z' ∧ SlR (tyInt .u32) Z' ao1001 cap1002 r.abs ∧ Mem B [] w0 Z0 ((.row b1 [.bool r.neg, .slice ao1001 r.abs.length cap1002] 117) :: Rr) Z' w' := by
 refine enter0 Tryz.func80 rfl rfl (by kernel_rfl) ?_; intro R i; have a := Fz.le.refl Z
 have C := hp (hs4.small); clear hp
 refine sqB i hM0 [] [] [] ?_; intro D j; clear i
 have k : Fr 19 [] [⟨0, [], pt b1 0⟩, ⟨1, [], pt b1 0⟩, ⟨2, [], y6 u2⟩] D := j.reg; clear j
 refine wp_seq (rgS mixed hM0 [(0, true), (1, true), (2, true), (3, true), (4, true), (5, true), (6, true), (7, true), (8, true), (9, true), (10, false), (11, false), (12, false)] [11, 12] [0] [.row b1 [.bool u0.neg, .slice ao2 u0.abs.length cap3] 117] ?_)
 intro E l S f; clear hM0
 have b := Fz.le.refl Z
 refine cS k 10 [0, 0] [] [(7, pt b1 0), (11, .bool u0.neg), (15, .slice ao2 u0.abs.length cap3), (16, y6 u2)] ?_; intro T m; clear k
 refine eS rfl ?_; intro F n
 obtain ⟨G, H⟩ := C
 refine ck m 103 #[.slice ao2 u0.abs.length cap3, y6 u2] ?_
 refine (gleft_fun u0.abs u2 G ao2 cap3 _ _ hs4 f.fz).mono ?_; rintro _ I ⟨o, p, J, rfl, g, hm⟩; refine ⟨_, rfl, ?_⟩; intro U q; have s := f.callZ hm; have h := hm.ext.le; clear hm f m
 replace hs4 := hs4.mono h
 replace b := b.mono h
 replace a := Fz.le.trans a h
 have c : Mem B [] w0 Z0 ((.row b1 [.bool u0.neg, .slice ao2 u0.abs.length cap3] 117) :: Rr) J I := s; clear s
 refine nl (qnI (n _ _ (c.cst b [0]) ?_)); clear n F
 refine eL rfl ?_; intro L t
 refine ck q 102 #[pt b1 0, .bool u0.neg, .slice o (gleftS u0.abs u2).length p] ?_
 refine (ggive_fun u0 u0.neg (gleftS u0.abs u2) b1 ao2 cap3 o p _ _ _ _ _ _ hs4 g c c.fz).mono ?_; rintro _ M ⟨u, v, x, rfl, d, N, hm⟩; refine ⟨_, rfl, ?_⟩; intro V y; have z := hm; clear hm c q
 replace hs4 := hs4.mono d
 replace b := b.mono d
 replace g := g.mono d
 replace a := Fz.le.trans a d
 have O : Mem B [] w0 Z0 ((.row b1 [.bool (ggive u0 u0.neg (gleftS u0.abs u2)).neg, .slice u (ggive u0 u0.neg (gleftS u0.abs u2)).abs.length v] 117) :: Rr) x M := z; clear z
 refine nl (qnI (t _ _ ?_)); clear t L
 refine eL rfl ?_; intro P A
 refine s1 y 6 (pt b1 0) ?_; intro W Q; clear y
 refine nl (qnI (A _ _ ?_)); clear A P
 refine nS (l _ _ ?_); clear l E
 refine thn ?_
 refine wp_ret ?_
 refine ra1 Q (pt b1 0) ?_
 exact ⟨(ggive u0 u0.neg (gleftS u0.abs u2)), u, v, x, rfl, H, a, N, O.keep (List.Sublist.cons_cons _ (List.Sublist.refl _))⟩

theorem gblen_walk (u0 : BInt) (b1 : Nat) (ao2 : Option Addr) (cap3 : Nat) (B : Nat) (w0 : World) (Z0 : Fz) (Rr : List Res) (Z : Fz) (w : World) (hs4 : SlR (tyInt .u32) Z ao2 cap3 u0.abs) (hM0 : Mem B [] w0 Z0 ((.row b1 [.bool u0.neg, .slice ao2 u0.abs.length cap3] 117) :: Rr) Z w) (hZ : Z.on w) {K : (Int × BInt) → Prop} (hp : gblen_vc u0 K) : Calls Tryz.prog 84 #[pt b1 0] w fun e w' => ∃ (r : Int × BInt) (ao1001 : Option Addr) (cap1002 : Nat) (Z' : Fz), e = .returned (i6 r.1) ∧ K r ∧ Fz.le Z Z' ∧ SlR (tyInt .u32) Z' ao1001 cap1002 r.2.abs ∧ Mem B [] w0 Z0 ((.row b1 [.bool r.2.neg, .slice ao1001 r.2.abs.length cap1002] 117) :: Rr) Z' w' := by
 refine enter0 Tryz.func84 rfl rfl (by kernel_rfl) ?_; intro n a; have g := Fz.le.refl Z
 have h := hp (hs4.small); clear hp
 refine sqB a hM0 [] [] [] ?_; intro o b; clear a
 refine sqH ?_; intro i c
 refine bt b hM0 4 [0] [] [(6, .slice ao2 u0.abs.length cap3)] ?_; intro p d; clear b
 obtain ⟨j, k⟩ := h
 refine fc d hM0 (glength_fun u0.abs j ao2 cap3 _ _ hs4 hM0.fz) ?_; intro q s f l; clear d hM0
 refine s1 f 2 (i6 (glengthS u0.abs)) ?_; intro t m; clear f
 refine nlH (c _ _ ?_); clear c i
 refine wp_ret ?_
 refine ra1 m (i6 (glengthS u0.abs)) ?_
 exact ⟨((glengthS u0.abs), u0), ao2, cap3, Z, rfl, k, g, hs4, l.keep (List.Sublist.cons_cons _ (List.Sublist.refl _))⟩

theorem gint64_walk (u0 : BInt) (b1 : Nat) (ao2 : Option Addr) (cap3 : Nat) (B : Nat) (w0 : World) (Z0 : Fz) (Rr : List Res) (Z : Fz) (w : World) (hs4 : SlR (tyInt .u32) Z ao2 cap3 u0.abs) (hM0 : Mem B [] w0 Z0 ((.row b1 [.bool u0.neg, .slice ao2 u0.abs.length cap3] 117) :: Rr) Z w) (hZ : Z.on w) {K : (Int × BInt) → Prop} (hp : gint64_vc u0 K) : Calls Tryz.prog 85 #[pt b1 0] w fun e w' => ∃ (r : Int × BInt) (ao1001 : Option Addr) (cap1002 : Nat) (Z' : Fz), e = .returned (i6 r.1) ∧ K r ∧ Fz.le Z Z' ∧ SlR (tyInt .u32) Z' ao1001 cap1002 r.2.abs ∧ Mem B [] w0 Z0 ((.row b1 [.bool r.2.neg, .slice ao1001 r.2.abs.length cap1002] 117) :: Rr) Z' w' := by
 refine enter0 Tryz.func85 rfl rfl (by kernel_rfl) ?_; intro G g; have c := Fz.le.refl Z
 have v := hp (hs4.small); clear hp
 refine sqB g hM0 [] [] [] ?_; intro H h; clear g
 refine sqH ?_; intro x i
 refine s1 h 4 (pt b1 0) ?_; intro I j; clear h
 obtain ⟨y, k⟩ := v
 refine ck j 109 #[pt b1 0] ?_
 obtain ⟨a, z, l⟩ := hxq k; clear k
 have d := guint64_fun u0 y b1 ao2 cap3 _ _ _ _ _ _ hs4 hM0 hM0.fz; rw [z] at d; refine d.mono ?_; clear d; rintro _ A ⟨m, n, o, rfl, p, q, hm⟩; refine ⟨_, rfl, ?_⟩; intro J s; have t := hm; clear hm hM0 j
 replace hs4 := hs4.mono p
 replace c := Fz.le.trans c p
 have b : Mem B [] w0 Z0 ((.row b1 [.bool a.2.neg, .slice m a.2.abs.length n] 117) :: Rr) o A := t; clear t
 have C := l (q.small); clear l
 refine bt s b 2 [] [] [(3, i6 (w64 a.1))] ?_; intro L u; clear s
 refine nlH (i _ _ ?_); clear i x
 refine wp_seq ?_
 refine sqB u b [0] [] [(10, .bool a.2.neg)] ?_; intro M f; clear u
 obtain ⟨D, E⟩ := C
 refine cn f D ?_
 refine wp_skip ?_
 refine thn ?_
 refine sqB f b [] [] [(2, i6 (w64 a.1))] ?_; intro N F; clear f
 refine wp_ret ?_
 refine ra1 F (i6 (w64 a.1)) ?_
 exact ⟨(w64 a.1, a.2), m, n, o, rfl, E, c, q, b.keep (List.Sublist.cons_cons _ (List.Sublist.refl _))⟩

theorem gsetstr_walk (u0 : BInt) (u1 : List UInt8) (b1 : Nat) (ao2 : Option Addr) (cap3 : Nat) (B : Nat) (w0 : World) (Z0 : Fz) (Rr : List Res) (Z : Fz) (w : World) (hs4 : SlR (tyInt .u32) Z ao2 cap3 u0.abs) (hM0 : Mem B [] w0 Z0 ((.row b1 [.bool u0.neg, .slice ao2 u0.abs.length cap3] 117) :: Rr) Z w) (hZ : Z.on w) {K : (Bool × Bool × BInt) → Prop} (hp : gsetstr_vc u0 u1 K) : Calls Tryz.prog 101 #[pt b1 0, str u1, i6 2] w fun e w' => ∃ (r : Bool × Bool × BInt) (ao1001 : Option Addr) (cap1002 : Nat) (Z' : Fz), e = .returned (.tuple #[.pointer (if r.1 = true then some ⟨b1, 0, none⟩ else none), .bool r.2.1]) ∧ K r ∧ Fz.le Z Z' ∧ SlR (tyInt .u32) Z' ao1001 cap1002 r.2.2.abs ∧ Mem B [] w0 Z0 ((.row b1 [.bool r.2.2.neg, .slice ao1001 r.2.2.abs.length cap1002] 117) :: Rr) Z' w' := by
 refine enter0 Tryz.func101 rfl rfl (by kernel_rfl) ?_; intro a0 Y; have a := Fz.le.refl Z
 have bf := hp (hs4.small); clear hp
 refine sqB Y hM0 [] [] [] ?_; intro a9 aa; clear Y
 refine sqB aa hM0 [] [] [(8, .bool false)] ?_; intro ca ab; clear aa
 refine wp_seq ?_
 refine sqH ?_; intro bg ac
 refine bt ab hM0 4 [] [] [(16, .bool (decide ((u1.length : Int) > 0)))] ?_; intro cb ad; clear ab
 obtain ⟨bh, bi⟩ := bf
 have C := ad.reval (d := 16) (c := []) (v := .bool (decide ((u1.length : Int) > 0))) (by kernel_rfl) (.bool true) (by rw [bh]); clear ad
 refine st C (str u1) (by rw [wanted_of C (b := true) rfl rfl (by kernel_rfl) (by kernel_rfl)]; rfl) rfl (by kernel_rfl) (p0 C (by kernel_rfl)) ?_; intro cc D; clear C
 obtain ⟨bj, bk⟩ := bi
 obtain ⟨E, ae⟩ : ∃ q, u1[(0 : Int).toNat]? = some q := ⟨_, List.getElem?_eq_getElem (by omega)⟩; have bl := bk E ae
 refine st D (y8 (E.toNat : Int)) (by rw [wanted_of D (b := true) rfl rfl (by kernel_rfl) (by kernel_rfl)]; rfl) rfl (by kernel_rfl) (stridx_run D (k := .i64) rfl (by kernel_rfl) (by kernel_rfl) (by kernel_rfl) bj.1 ae) ?_; intro ce af; clear D
 refine bt af hM0 2 [] [19, 20] [(20, .bool ((E.toNat : Int) == 45))] ?_; intro cf ag; clear af
 obtain ⟨bm, bn⟩ := bl
 have F := ag.reval (d := 20) (c := []) (v := .bool ((E.toNat : Int) == 45)) (by kernel_rfl) (.bool false) (by rw [bm]); clear ag
 refine st F (str u1) (by rw [wanted_of F (b := false) rfl rfl (by kernel_rfl) (by kernel_rfl)]; rfl) rfl (by kernel_rfl) (p0 F (by kernel_rfl)) ?_; intro cg G; clear F
 obtain ⟨bo, bp⟩ := bn
 obtain ⟨N, ah⟩ : ∃ q, u1[(0 : Int).toNat]? = some q := ⟨_, List.getElem?_eq_getElem (by omega)⟩; have bq := bp N ah
 refine st G (y8 (N.toNat : Int)) (by rw [wanted_of G (b := false) rfl rfl (by kernel_rfl) (by kernel_rfl)]; rfl) rfl (by kernel_rfl) (stridx_run G (k := .i64) rfl (by kernel_rfl) (by kernel_rfl) (by kernel_rfl) bo.1 ah) ?_; intro ch ai; clear G
 refine bt ai hM0 3 [] [23, 24, 25] [(25, .bool ((N.toNat : Int) == 43))] ?_; intro ci O; clear ai
 refine nlH (ac _ _ ?_); clear ac bg
 obtain ⟨br, bs⟩ := bq
 refine cn O br ?_
 refine wp_skip ?_
 refine thn ?_
 refine wp_seq ?_
 refine sqB O hM0 [] [] [(32, .bool false)] ?_; intro cj P; clear O
 refine cdF P (by kernel_rfl) ?_
 refine wp_skip ?_
 refine thn ?_
 refine wp_seq ?_
 refine sqB P hM0 [] [] [(66, .bool ((((u1.length : Int) == 0) || false) || false))] ?_; intro cl Q; clear P
 obtain ⟨bu, bv⟩ := bs
 refine cn Q bu ?_
 refine wp_skip ?_
 refine thn ?_
 refine sqB Q hM0 [] [] [(9, .slice none 0 0)] ?_; intro cm aj; clear Q
 refine wp_seq ?_
 refine sqB aj hM0 [] [] [(10, i6 0)] ?_; intro ak al; clear aj
 refine wp_block ?_
 have am : Fr 124 [] [⟨0, [], pt b1 0⟩, ⟨1, [], str u1⟩, ⟨2, [], i6 2⟩, ⟨8, [], .bool false⟩, ⟨9, [], .slice none 0 0⟩, ⟨10, [], i6 0⟩] ak := al.reg; clear al
 have an : Fr 124 [] [⟨0, [], pt b1 0⟩, ⟨1, [], str u1⟩, ⟨2, [], i6 2⟩, ⟨8, [], .bool false⟩, ⟨9, [], .slice none 0 0⟩, ⟨10, [], i6 0⟩] ak := am.reg; clear am
 obtain ⟨bw, bx, bz, bA⟩ := bv
 have co := a
 refine lp (ι := (List Int) × Int × (Option Addr) × Nat × Fz) (fun s => [⟨0, [], pt b1 0⟩, ⟨1, [], str u1⟩, ⟨2, [], i6 2⟩, ⟨8, [], .bool false⟩, ⟨9, [], .slice s.2.2.1 s.1.length s.2.2.2.1⟩, ⟨10, [], i6 s.2.1⟩]) (fun s => ((.row b1 [.bool u0.neg, .slice ao2 u0.abs.length cap3] 117) :: Rr)) (fun s => s.2.2.2.2) (fun s => bw s.1 s.2.1 ∧ SlR (tyInt .u32) s.2.2.2.2 s.2.2.1 s.2.2.2.1 s.1 ∧ Fz.le Z s.2.2.2.2) (fun s => bx s.1 s.2.1) ⟨([] : List Int), 0, none, 0, Z⟩ ⟨bz, (SlR.nil _ _), Fz.le.refl _⟩ (by exact an.reg) (by exact hM0) ?_
 rintro ⟨i, m, o, p, bB⟩ ⟨bC, j, g⟩ bD bE ao ap
 have aq : Fr 124 [] [⟨0, [], pt b1 0⟩, ⟨1, [], str u1⟩, ⟨2, [], i6 2⟩, ⟨8, [], .bool false⟩, ⟨9, [], .slice o i.length p⟩, ⟨10, [], i6 m⟩] bD := ao; clear ao an
 have f : Mem B [] w0 Z0 ((.row b1 [.bool u0.neg, .slice ao2 u0.abs.length cap3] 117) :: Rr) bB bE := ap; clear ap hM0
 have H := bA i m bC
 replace a := Fz.le.trans a g
 have l := hs4.mono g
 refine wp_seq ?_
 refine sqB aq f [] [] [(70, .bool (decide (m < (u1.length : Int))))] ?_; intro cp z; clear aq
 refine cd z (t := decide (m < (u1.length : Int))) (by kernel_rfl) (fun R => ?_) (fun R => ?_)
 ·
  have bF := H.1 R; clear H
  refine wp_skip ?_
  refine thn ?_
  refine wp_seq ?_
  refine wp_block ?_
  refine sqB z f [] [] [(11, i6 99)] ?_; intro cq ar; clear z
  refine wp_seq ?_
  refine sqH ?_; intro bG au
  refine bt ar f 2 [] [] [(73, str u1), (74, i6 m)] ?_; intro cr av; clear ar
  obtain ⟨bH, bI⟩ := bF
  obtain ⟨h, aw⟩ : ∃ q, u1[m.toNat]? = some q := ⟨_, List.getElem?_eq_getElem (by omega)⟩; have bJ := bI h aw
  refine si av .i64 bH.1 aw ?_; intro cs ax; clear av
  refine s1 ax 12 (y8 (h.toNat : Int)) ?_; intro ct ay; clear ax
  refine nlH (au _ _ ?_); clear au bG
  refine wp_block ?_
  refine sqB ay f [] [] [(76, .bool ((decide ((h.toNat : Int) ≥ 48)) && (decide ((h.toNat : Int) ≤ 57))))] ?_; intro cu S; clear ay
  obtain ⟨bK, bL⟩ := bJ
  refine cy S bK ?_
  refine rgB S f [] [] [(11, i6 (w64 (w8 ((h.toNat : Int) - 48))))] ?_; intro cv az; clear S
  refine ibn ?_
  refine thn ?_
  refine wp_seq ?_
  refine sqB az f [] [] [(110, .bool (decide ((w64 (w8 ((h.toNat : Int) - 48))) ≥ 2)))] ?_; intro cw T; clear az
  obtain ⟨bM, bN⟩ := bL
  refine cn T bM ?_
  refine wp_skip ?_
  refine thn ?_
  refine rgH ?_; intro bO aA
  refine bt T f 3 [] [] [(111, .slice o i.length p), (113, y6 2)] ?_; intro cx aB; clear T
  obtain ⟨bP, aC⟩ := bN
  refine ck aB 125 #[y6 2] ?_
  refine (gwords_fun 2 bP _ _ f.fz).mono ?_; rintro _ bQ ⟨aD, aE, bR, rfl, n, hm⟩; refine ⟨_, rfl, ?_⟩; intro cz aF; have aG := f.callZ hm; have I := hm.ext.le; clear hm f aB
  replace l := l.mono I
  replace j := j.mono I
  replace g := g.mono I
  replace a := Fz.le.trans a I
  have U : Mem B [] w0 Z0 ((.row b1 [.bool u0.neg, .slice ao2 u0.abs.length cap3] 117) :: Rr) bR bQ := aG; clear aG
  have bS := aC (n.small); clear aC
  obtain ⟨bT, aH⟩ := bS
  refine ck aF 124 #[.slice o i.length p, .slice aD (gwordsS 2).length aE] ?_
  refine (gmul_fun i (gwordsS 2) bT o p aD aE _ _ j n U.fz).mono ?_; rintro _ bU ⟨aI, aJ, bV, rfl, x, hm⟩; refine ⟨_, rfl, ?_⟩; intro cA aK; have aL := U.callZ hm; have A := hm.ext.le; clear hm U aF
  replace l := l.mono A
  replace j := j.mono A
  replace g := g.mono A
  replace n := n.mono A
  replace a := Fz.le.trans a A
  have J : Mem B [] w0 Z0 ((.row b1 [.bool u0.neg, .slice ao2 u0.abs.length cap3] 117) :: Rr) bV bU := aL; clear aL
  have bW := aH (x.small); clear aH
  refine bt aK J 2 [] [] [(117, y6 (wu64 (w64 (w8 ((h.toNat : Int) - 48)))))] ?_; intro cB aM; clear aK
  obtain ⟨bX, aN⟩ := bW
  refine ck aM 125 #[y6 (wu64 (w64 (w8 ((h.toNat : Int) - 48))))] ?_
  refine (gwords_fun (wu64 (w64 (w8 ((h.toNat : Int) - 48)))) bX _ _ J.fz).mono ?_; rintro _ bY ⟨aO, aP, bZ, rfl, L, hm⟩; refine ⟨_, rfl, ?_⟩; intro cC aQ; have aR := J.callZ hm; have y := hm.ext.le; clear hm J aM
  replace l := l.mono y
  replace j := j.mono y
  replace g := g.mono y
  replace n := n.mono y
  replace x := x.mono y
  replace a := Fz.le.trans a y
  have V : Mem B [] w0 Z0 ((.row b1 [.bool u0.neg, .slice ao2 u0.abs.length cap3] 117) :: Rr) bZ bY := aR; clear aR
  have b0 := aN (L.small); clear aN
  obtain ⟨b2, aS⟩ := b0
  refine ck aQ 123 #[.slice aI (gmulS i (gwordsS 2)).length aJ, .slice aO (gwordsS (wu64 (w64 (w8 ((h.toNat : Int) - 48))))).length aP] ?_
  refine (gadd_fun (gmulS i (gwordsS 2)) (gwordsS (wu64 (w64 (w8 ((h.toNat : Int) - 48))))) b2 aI aJ aO aP _ _ x L V.fz).mono ?_; rintro _ b3 ⟨aT, aU, aV, rfl, aW, hm⟩; refine ⟨_, rfl, ?_⟩; intro cD aX; have aY := V.callZ hm; have u := hm.ext.le; clear hm V aQ
  replace l := l.mono u
  replace j := j.mono u
  replace g := g.mono u
  replace n := n.mono u
  replace x := x.mono u
  replace L := L.mono u
  replace a := Fz.le.trans a u
  have aZ : Mem B [] w0 Z0 ((.row b1 [.bool u0.neg, .slice ao2 u0.abs.length cap3] 117) :: Rr) aV b3 := aY; clear aY
  have a1 := aS (aW.small); clear aS
  refine s1 aX 9 (.slice aT (gaddS (gmulS i (gwordsS 2)) (gwordsS (wu64 (w64 (w8 ((h.toNat : Int) - 48)))))).length aU) ?_; intro cE a2; clear aX
  refine nlH (aA _ _ ?_); clear aA bO
  refine ibn ?_
  refine thn ?_
  refine rgB a2 aZ [] [] [(10, i6 (w64 (m + 1)))] ?_; intro cF b4; clear a2
  refine rd ?_
  exact ⟨⟨(gaddS (gmulS i (gwordsS 2)) (gwordsS (wu64 (w64 (w8 ((h.toNat : Int) - 48)))))), w64 (m + 1), aT, aU, aV⟩, ⟨a1.1, aW, g⟩, a1.2, (b4.reg).anyβ _ (by kernel_rfl), aZ.keep (List.Sublist.cons_cons _ (List.Sublist.refl _))⟩
 have a3 := H.2 R; clear H
 refine wp_exit ?_
 refine thx ?_
 refine thx ?_
 refine ibx ?_
 refine thn ?_
 refine sqH ?_; intro b5 a4
 refine bt z f 3 [] [] [(120, pt b1 0), (121, .bool false), (122, .slice o i.length p)] ?_; intro cG a5; clear z
 refine ck a5 102 #[pt b1 0, .bool false, .slice o i.length p] ?_
 obtain ⟨W, b6, a6⟩ := hxq a3; clear a3
 have X := ggive_fun u0 false i b1 ao2 cap3 o p _ _ _ _ _ _ l j f f.fz; rw [b6] at X; refine X.mono ?_; clear X; rintro _ b7 ⟨a7, a8, ba, rfl, M, bb, hm⟩; refine ⟨_, rfl, ?_⟩; intro cH bc; have bd := hm; clear hm f a5
 replace l := l.mono M
 replace j := j.mono M
 replace g := g.mono M
 replace a := Fz.le.trans a M
 have be : Mem B [] w0 Z0 ((.row b1 [.bool W.neg, .slice a7 W.abs.length a8] 117) :: Rr) ba b7 := bd; clear bd
 have b8 := a6 (bb.small); clear a6
 refine bt bc be 2 [] [] [(6, pt b1 0), (7, .bool true)] ?_; intro cI b9; clear bc
 refine nlH (a4 _ _ ?_); clear a4 b5
 refine wp_ret ?_
 refine ra2 b9 (.tuple #[pt b1 0, .bool true]) ?_
 exact ⟨(true, true, W), a7, a8, ba, rfl, b8, a, bb, be.keep (List.Sublist.cons_cons _ (List.Sublist.refl _))⟩

theorem gset_walk (u0 : BInt) (b1 : Nat) (ao2 : Option Addr) (cap3 : Nat) (B : Nat) (w0 : World) (Z0 : Fz) (Rr : List Res) (Z : Fz) (w : World) (hs4 : SlR (tyInt .u32) Z ao2 cap3 u0.abs) (hM0 : Mem B [] w0 Z0 ((.row b1 [.bool u0.neg, .slice ao2 u0.abs.length cap3] 117) :: Rr) Z w) (hZ : Z.on w) {K : BInt → Prop} (hp : gset_vc u0 K) : Calls Tryz.prog 107 #[pt b1 0, pt b1 0] w fun e w' => ∃ (r : BInt) (ao1001 : Option Addr) (cap1002 : Nat) (Z' : Fz), e = .returned (pt b1 0) ∧ K r ∧ Fz.le Z Z' ∧ SlR (tyInt .u32) Z' ao1001 cap1002 r.abs ∧ Mem B [] w0 Z0 ((.row b1 [.bool r.neg, .slice ao1001 r.abs.length cap1002] 117) :: Rr) Z' w' := by
 refine enter0 Tryz.func107 rfl rfl (by kernel_rfl) ?_; intro V l; have a := Fz.le.refl Z
 have G := hp (hs4.small); clear hp
 refine sqB l hM0 [] [] [] ?_; intro H m; clear l
 have n : Fr 16 [] [⟨0, [], pt b1 0⟩, ⟨1, [], pt b1 0⟩] H := m.reg; clear m
 refine wp_seq (rgS mixed hM0 [(0, true), (1, true), (2, true), (3, true), (4, true), (5, true), (6, true), (7, true), (8, true), (9, false), (10, false), (11, false)] [10, 11] [0] [.row b1 [.bool u0.neg, .slice ao2 u0.abs.length cap3] 117] ?_)
 intro I o W d; clear hM0
 have b := Fz.le.refl Z
 refine cS n 9 [0, 0] [] [(5, pt b1 0), (9, .bool u0.neg), (13, .slice ao2 u0.abs.length cap3)] ?_; intro X p; clear n
 refine eS rfl ?_; intro J q
 obtain ⟨L, M⟩ := G
 refine ck p 127 #[.slice ao2 u0.abs.length cap3] ?_
 refine (gtwin_fun u0.abs L ao2 cap3 _ _ hs4 d.fz).mono ?_; rintro _ s ⟨f, g, N, rfl, hm⟩; refine ⟨_, rfl, ?_⟩; intro Y t; have u := d.callZ hm; have h := hm.ext.le; clear hm d p
 replace hs4 := hs4.mono h
 replace b := b.mono h
 replace a := Fz.le.trans a h
 have v : Mem B [] w0 Z0 ((.own (tyInt .u32) 143 f g (gtwinS u0.abs)) :: (.row b1 [.bool u0.neg, .slice ao2 u0.abs.length cap3] 117) :: Rr) N s := u; clear u
 refine nl (qnI (q _ _ (v.cst b [1]) ?_)); clear q J
 refine eL rfl ?_; intro O x
 obtain ⟨P, i, y, j⟩ := v.freeze 0 rfl
 replace hs4 := hs4.mono i
 replace b := b.mono i
 replace a := Fz.le.trans a i
 have k : Mem B [] w0 Z0 ((.row b1 [.bool u0.neg, .slice ao2 u0.abs.length cap3] 117) :: Rr) P s := y; clear y
 refine ck t 102 #[pt b1 0, .bool u0.neg, .slice f (gtwinS u0.abs).length g] ?_
 refine (ggive_fun u0 u0.neg (gtwinS u0.abs) b1 ao2 cap3 f g _ _ _ _ _ _ hs4 j k k.fz).mono ?_; rintro _ Q ⟨z, A, C, rfl, c, R, hm⟩; refine ⟨_, rfl, ?_⟩; intro aa D; have E := hm; clear hm k t
 replace hs4 := hs4.mono c
 replace b := b.mono c
 replace j := j.mono c
 replace a := Fz.le.trans a c
 have S : Mem B [] w0 Z0 ((.row b1 [.bool (ggive u0 u0.neg (gtwinS u0.abs)).neg, .slice z (ggive u0 u0.neg (gtwinS u0.abs)).abs.length A] 117) :: Rr) C Q := E; clear E
 refine nl (qnI (x _ _ ?_)); clear x O
 refine eL rfl ?_; intro T F
 refine s1 D 4 (pt b1 0) ?_; intro ab U; clear D
 refine nl (qnI (F _ _ ?_)); clear F T
 refine nS (o _ _ ?_); clear o I
 refine thn ?_
 refine wp_ret ?_
 refine ra1 U (pt b1 0) ?_
 exact ⟨(ggive u0 u0.neg (gtwinS u0.abs)), z, A, C, rfl, M, a, R, S.keep (List.Sublist.cons_cons _ (List.Sublist.refl _))⟩

end Go.Proofs.YtmbdcehmeiiaoaaGreatDoor
set_option linter.unusedVariables false
set_option linter.unusedSimpArgs false
set_option maxRecDepth 100000
set_option maxHeartbeats 0
namespace Go.Proofs.YtmbdcehmeiiaoaaGreatDoor
open Go.Sy Go.RowKit
theorem gof_fun (u0 : BInt) (u1 : List Int) (hpre : wok u1 ∧ u1.length ≤ 1000000 ∧ ∀ q, u1[u1.length - 1]? = some q → q < 2147483648) (b1 : Nat) (ao2 : Option Addr) (cap3 : Nat) (ao5 : Option Addr) (cap6 : Nat) (B : Nat) (w0 : World) (Z0 : Fz) (Rr : List Res) (Z : Fz) (w : World) (hs4 : SlR (tyInt .u32) Z ao2 cap3 u0.abs) (hM0 : Mem B [] w0 Z0 ((.row b1 [.bool u0.neg, .slice ao2 u0.abs.length cap3] 117) :: (.own (tyInt .u32) 143 ao5 cap6 u1) :: Rr) Z w) (hZ : Z.on w) : Calls Tryz.prog 106 #[pt b1 0, .slice ao5 u1.length cap6] w fun e w' => ∃ (ao1001 : Option Addr) (cap1002 : Nat) (Z' : Fz), e = .returned (pt b1 0) ∧ Fz.le Z Z' ∧ SlR (tyInt .u32) Z' ao1001 cap1002 (gofS u0 u1).abs ∧ Mem B [] w0 Z0 ((.row b1 [.bool (gofS u0 u1).neg, .slice ao1001 (gofS u0 u1).abs.length cap1002] 117) :: Rr) Z' w' :=
  (gof_walk u0 u1 b1 ao2 cap3 ao5 cap6 B w0 Z0 Rr Z w hs4 hM0 hZ (gof_ok u0 u1 hpre)).mono fun _ _ ⟨r, h0, h1, h2, he, hk, f0, f1, hm⟩ => by subst hk; exact ⟨h0, h1, h2, he, f0, f1, hm⟩

theorem gseti_fun (u0 : BInt) (u1 : Int) (hpre : 0 ≤ u1 ∧ u1 ≤ 9223372036854775807) (b1 : Nat) (ao2 : Option Addr) (cap3 : Nat) (B : Nat) (w0 : World) (Z0 : Fz) (Rr : List Res) (Z : Fz) (w : World) (hs4 : SlR (tyInt .u32) Z ao2 cap3 u0.abs) (hM0 : Mem B [] w0 Z0 ((.row b1 [.bool u0.neg, .slice ao2 u0.abs.length cap3] 117) :: Rr) Z w) (hZ : Z.on w) : Calls Tryz.prog 104 #[pt b1 0, i6 u1] w fun e w' => ∃ (ao1001 : Option Addr) (cap1002 : Nat) (Z' : Fz), e = .returned (pt b1 0) ∧ Fz.le Z Z' ∧ SlR (tyInt .u32) Z' ao1001 cap1002 (gsetiS u0 u1).abs ∧ Mem B [] w0 Z0 ((.row b1 [.bool (gsetiS u0 u1).neg, .slice ao1001 (gsetiS u0 u1).abs.length cap1002] 117) :: Rr) Z' w' :=
  (gseti_walk u0 u1 b1 ao2 cap3 B w0 Z0 Rr Z w hs4 hM0 hZ (gseti_ok u0 u1 hpre)).mono fun _ _ ⟨r, h0, h1, h2, he, hk, f0, f1, hm⟩ => by subst hk; exact ⟨h0, h1, h2, he, f0, f1, hm⟩

theorem glsh_fun (u0 : BInt) (u1 : BInt) (u2 : Int) (hpre : u1.neg = false ∧ wok u1.abs ∧ u1.abs.length ≤ 1000 ∧ 0 ≤ u2 ∧ u2 ≤ 100000) (b1 : Nat) (ao2 : Option Addr) (cap3 : Nat) (b5 : Nat) (ao6 : Option Addr) (cap7 : Nat) (B : Nat) (w0 : World) (Z0 : Fz) (Rr : List Res) (Z : Fz) (w : World) (hs4 : SlR (tyInt .u32) Z ao2 cap3 u0.abs) (hs8 : SlR (tyInt .u32) Z ao6 cap7 u1.abs) (hM0 : Mem B [] w0 Z0 ((.row b1 [.bool u0.neg, .slice ao2 u0.abs.length cap3] 117) :: (.row b5 [.bool u1.neg, .slice ao6 u1.abs.length cap7] 117) :: Rr) Z w) (hZ : Z.on w) : Calls Tryz.prog 80 #[pt b1 0, pt b5 0, y6 u2] w fun e w' => ∃ (ao1001 : Option Addr) (cap1002 : Nat) (ao1004 : Option Addr) (cap1005 : Nat) (Z' : Fz), e = .returned (pt b1 0) ∧ Fz.le Z Z' ∧ SlR (tyInt .u32) Z' ao1001 cap1002 (glshS u0 u1 u2).1.abs ∧ SlR (tyInt .u32) Z' ao1004 cap1005 (glshS u0 u1 u2).2.abs ∧ Mem B [] w0 Z0 ((.row b1 [.bool (glshS u0 u1 u2).1.neg, .slice ao1001 (glshS u0 u1 u2).1.abs.length cap1002] 117) :: (.row b5 [.bool (glshS u0 u1 u2).2.neg, .slice ao1004 (glshS u0 u1 u2).2.abs.length cap1005] 117) :: Rr) Z' w' :=
  (glsh_walk u0 u1 u2 b1 ao2 cap3 b5 ao6 cap7 B w0 Z0 Rr Z w hs4 hs8 hM0 hZ (glsh_ok u0 u1 u2 hpre)).mono fun _ _ ⟨r, h0, h1, h2, h3, h4, he, hk, f0, f1, f2, hm⟩ => by subst hk; exact ⟨h0, h1, h2, h3, h4, he, f0, f1, f2, hm⟩

theorem glshA_fun (u0 : BInt) (u2 : Int) (hpre : u0.neg = false ∧ wok u0.abs ∧ u0.abs.length ≤ 1000 ∧ 0 ≤ u2 ∧ u2 ≤ 100000) (b1 : Nat) (ao2 : Option Addr) (cap3 : Nat) (B : Nat) (w0 : World) (Z0 : Fz) (Rr : List Res) (Z : Fz) (w : World) (hs4 : SlR (tyInt .u32) Z ao2 cap3 u0.abs) (hM0 : Mem B [] w0 Z0 ((.row b1 [.bool u0.neg, .slice ao2 u0.abs.length cap3] 117) :: Rr) Z w) (hZ : Z.on w) : Calls Tryz.prog 80 #[pt b1 0, pt b1 0, y6 u2] w fun e w' => ∃ (ao1001 : Option Addr) (cap1002 : Nat) (Z' : Fz), e = .returned (pt b1 0) ∧ Fz.le Z Z' ∧ SlR (tyInt .u32) Z' ao1001 cap1002 (glshAS u0 u2).abs ∧ Mem B [] w0 Z0 ((.row b1 [.bool (glshAS u0 u2).neg, .slice ao1001 (glshAS u0 u2).abs.length cap1002] 117) :: Rr) Z' w' :=
  (glshA_walk u0 u2 b1 ao2 cap3 B w0 Z0 Rr Z w hs4 hM0 hZ (glshA_ok u0 u2 hpre)).mono fun _ _ ⟨r, h0, h1, h2, he, hk, f0, f1, hm⟩ => by subst hk; exact ⟨h0, h1, h2, he, f0, f1, hm⟩

theorem gblen_fun (u0 : BInt) (hpre : u0.abs = ws (wv u0.abs) ∧ u0.abs.length ≤ 1000000) (b1 : Nat) (ao2 : Option Addr) (cap3 : Nat) (B : Nat) (w0 : World) (Z0 : Fz) (Rr : List Res) (Z : Fz) (w : World) (hs4 : SlR (tyInt .u32) Z ao2 cap3 u0.abs) (hM0 : Mem B [] w0 Z0 ((.row b1 [.bool u0.neg, .slice ao2 u0.abs.length cap3] 117) :: Rr) Z w) (hZ : Z.on w) : Calls Tryz.prog 84 #[pt b1 0] w fun e w' => ∃ (ao1001 : Option Addr) (cap1002 : Nat) (Z' : Fz), e = .returned (i6 (gblenS u0).1) ∧ Fz.le Z Z' ∧ SlR (tyInt .u32) Z' ao1001 cap1002 (gblenS u0).2.abs ∧ Mem B [] w0 Z0 ((.row b1 [.bool (gblenS u0).2.neg, .slice ao1001 (gblenS u0).2.abs.length cap1002] 117) :: Rr) Z' w' :=
  (gblen_walk u0 b1 ao2 cap3 B w0 Z0 Rr Z w hs4 hM0 hZ (gblen_ok u0 hpre)).mono fun _ _ ⟨r, h0, h1, h2, he, hk, f0, f1, hm⟩ => by subst hk; exact ⟨h0, h1, h2, he, f0, f1, hm⟩

theorem gint64_fun (u0 : BInt) (hpre : u0.neg = false ∧ wok u0.abs ∧ wv u0.abs < 9223372036854775808) (b1 : Nat) (ao2 : Option Addr) (cap3 : Nat) (B : Nat) (w0 : World) (Z0 : Fz) (Rr : List Res) (Z : Fz) (w : World) (hs4 : SlR (tyInt .u32) Z ao2 cap3 u0.abs) (hM0 : Mem B [] w0 Z0 ((.row b1 [.bool u0.neg, .slice ao2 u0.abs.length cap3] 117) :: Rr) Z w) (hZ : Z.on w) : Calls Tryz.prog 85 #[pt b1 0] w fun e w' => ∃ (ao1001 : Option Addr) (cap1002 : Nat) (Z' : Fz), e = .returned (i6 (gint64S u0).1) ∧ Fz.le Z Z' ∧ SlR (tyInt .u32) Z' ao1001 cap1002 (gint64S u0).2.abs ∧ Mem B [] w0 Z0 ((.row b1 [.bool (gint64S u0).2.neg, .slice ao1001 (gint64S u0).2.abs.length cap1002] 117) :: Rr) Z' w' :=
  (gint64_walk u0 b1 ao2 cap3 B w0 Z0 Rr Z w hs4 hM0 hZ (gint64_ok u0 hpre)).mono fun _ _ ⟨r, h0, h1, h2, he, hk, f0, f1, hm⟩ => by subst hk; exact ⟨h0, h1, h2, he, f0, f1, hm⟩

theorem gsetstr_fun (u0 : BInt) (u1 : List UInt8) (hpre : isRow u1 = true ∧ u1 ≠ [] ∧ u1.length ≤ 1000) (b1 : Nat) (ao2 : Option Addr) (cap3 : Nat) (B : Nat) (w0 : World) (Z0 : Fz) (Rr : List Res) (Z : Fz) (w : World) (hs4 : SlR (tyInt .u32) Z ao2 cap3 u0.abs) (hM0 : Mem B [] w0 Z0 ((.row b1 [.bool u0.neg, .slice ao2 u0.abs.length cap3] 117) :: Rr) Z w) (hZ : Z.on w) : Calls Tryz.prog 101 #[pt b1 0, str u1, i6 2] w fun e w' => ∃ (ao1001 : Option Addr) (cap1002 : Nat) (Z' : Fz), e = .returned (.tuple #[.pointer (if (gsetstrS u0 u1).1 = true then some ⟨b1, 0, none⟩ else none), .bool (gsetstrS u0 u1).2.1]) ∧ Fz.le Z Z' ∧ SlR (tyInt .u32) Z' ao1001 cap1002 (gsetstrS u0 u1).2.2.abs ∧ Mem B [] w0 Z0 ((.row b1 [.bool (gsetstrS u0 u1).2.2.neg, .slice ao1001 (gsetstrS u0 u1).2.2.abs.length cap1002] 117) :: Rr) Z' w' :=
  (gsetstr_walk u0 u1 b1 ao2 cap3 B w0 Z0 Rr Z w hs4 hM0 hZ (gsetstr_ok u0 u1 hpre)).mono fun _ _ ⟨r, h0, h1, h2, he, hk, f0, f1, hm⟩ => by subst hk; exact ⟨h0, h1, h2, he, f0, f1, hm⟩

theorem gset_fun (u0 : BInt) (hpre : u0.neg = false ∧ u0.abs.length ≤ 1000000) (b1 : Nat) (ao2 : Option Addr) (cap3 : Nat) (B : Nat) (w0 : World) (Z0 : Fz) (Rr : List Res) (Z : Fz) (w : World) (hs4 : SlR (tyInt .u32) Z ao2 cap3 u0.abs) (hM0 : Mem B [] w0 Z0 ((.row b1 [.bool u0.neg, .slice ao2 u0.abs.length cap3] 117) :: Rr) Z w) (hZ : Z.on w) : Calls Tryz.prog 107 #[pt b1 0, pt b1 0] w fun e w' => ∃ (ao1001 : Option Addr) (cap1002 : Nat) (Z' : Fz), e = .returned (pt b1 0) ∧ Fz.le Z Z' ∧ SlR (tyInt .u32) Z' ao1001 cap1002 (gsetS u0).abs ∧ Mem B [] w0 Z0 ((.row b1 [.bool (gsetS u0).neg, .slice ao1001 (gsetS u0).abs.length cap1002] 117) :: Rr) Z' w' :=
  (gset_walk u0 b1 ao2 cap3 B w0 Z0 Rr Z w hs4 hM0 hZ (gset_ok u0 hpre)).mono fun _ _ ⟨r, h0, h1, h2, he, hk, f0, f1, hm⟩ => by subst hk; exact ⟨h0, h1, h2, he, f0, f1, hm⟩

theorem gxor_walk (u0 : BInt) (u2 : BInt) (b1 : Nat) (ao2 : Option Addr) (cap3 : Nat) (b5 : Nat) (ao6 : Option Addr) (cap7 : Nat) (B : Nat) (w0 : World) (Z0 : Fz) (Rr : List Res) (Z : Fz) (w : World) (hs4 : SlR (tyInt .u32) Z ao2 cap3 u0.abs) (hs8 : SlR (tyInt .u32) Z ao6 cap7 u2.abs) (hM0 : Mem B [] w0 Z0 ((.row b1 [.bool u0.neg, .slice ao2 u0.abs.length cap3] 117) :: (.row b5 [.bool u2.neg, .slice ao6 u2.abs.length cap7] 117) :: Rr) Z w) (hZ : Z.on w) {K : (BInt × BInt) → Prop} (hp : gxor_vc u0 u2 K) : Calls Tryz.prog 82 #[pt b1 0, pt b1 0, pt b5 0] w fun e w' => ∃ (r : BInt × BInt) (ao1001 : Option Addr) (cap1002 : Nat) (ao1004 : Option Addr) (cap1005 : Nat) (Z' : Fz), e = .returned (pt b1 0) ∧ K r ∧ Fz.le Z Z' ∧ SlR (tyInt .u32) Z' ao1001 cap1002 r.1.abs ∧ SlR (tyInt .u32) Z' ao1004 cap1005 r.2.abs ∧ Mem B [] w0 Z0 ((.row b1 [.bool r.1.neg, .slice ao1001 r.1.abs.length cap1002] 117) :: (.row b5 [.bool r.2.neg, .slice ao1004 r.2.abs.length cap1005] 117) :: Rr) Z' w' := by
 refine enter0 Tryz.func82 rfl rfl (by kernel_rfl) ?_; intro a0 aa; have p := Fz.le.refl Z
 have ab := hp (hs4.small); clear hp
 have bi := ab (hs8.small); clear ab
 refine sqB aa hM0 [] [] [] ?_; intro bj ac; clear aa
 have ad : Fr 47 [] [⟨0, [], pt b1 0⟩, ⟨1, [], pt b1 0⟩, ⟨2, [], pt b5 0⟩] bj := ac.region (by kernel_rfl) (by kernel_rfl); clear ac
 refine sqQH mixed (by kernel_rfl) hM0 ?_; intro bk ae
 refine q1 ad 11 (pt b1 0) ?_; intro ch af; clear ad
 refine q1 af 12 (pt b1 0) ?_; intro ci ag; clear af
 refine q1 ag 13 (pt b1 1) ?_; intro cj Q; clear ag
 refine qst Q (.slice ao2 u0.abs.length cap3) (nog rfl _) rfl (by kernel_rfl) (fun v25 hC => ld Q hC 0 (g := []) (b := b1) (off := 1) (cs := [.bool u0.neg, .slice ao2 u0.abs.length cap3]) (ty := 117) rfl (by kernel_rfl) (by kernel_rfl) (by kernel_rfl) (by kernel_rfl) rfl) ?_; intro cl ah; clear Q
 refine q1 ah 15 (i6 (u0.abs.length : Int)) ?_; intro cm ai; clear ah
 refine q1 ai 16 (pt b5 0) ?_; intro cn aj; clear ai
 refine q1 aj 17 (pt b5 0) ?_; intro co ak; clear aj
 refine q1 ak 18 (pt b5 1) ?_; intro cp R; clear ak
 refine qst R (.slice ao6 u2.abs.length cap7) (nog rfl _) rfl (by kernel_rfl) (fun v40 hC => ld R hC 1 (g := []) (b := b5) (off := 1) (cs := [.bool u2.neg, .slice ao6 u2.abs.length cap7]) (ty := 117) rfl (by kernel_rfl) (by kernel_rfl) (by kernel_rfl) (by kernel_rfl) rfl) ?_; intro cq al; clear R
 refine q1 al 20 (i6 (u2.abs.length : Int)) ?_; intro cr S; clear al
 refine qst S (i6 (max (u0.abs.length : Int) (u2.abs.length : Int))) (nog rfl _) rfl (by kernel_rfl) (fun v46 hC => re_ (p0 S (r := .ok (.value (i6 (if (u0.abs.length : Int) < (u2.abs.length : Int) then (u2.abs.length : Int) else (u0.abs.length : Int)))) v46) (by kernel_rfl)) (by rw [imax])) ?_; intro ct am; clear S
 refine q1 am 22 (i6 (w64 ((max (u0.abs.length : Int) (u2.abs.length : Int)) + 1))) ?_; intro cu an; clear am
 refine q1 an 7 (i6 (w64 ((max (u0.abs.length : Int) (u2.abs.length : Int)) + 1))) ?_; intro cv ao; clear an
 refine qnl (ae _ ?_); clear ae bk; intro cw L; clear hM0
 refine sqH ?_; intro bl ap
 refine bt ao L 2 [] [] [(23, pt b1 0), (24, i6 (w64 ((max (u0.abs.length : Int) (u2.abs.length : Int)) + 1)))] ?_; intro cx aq; clear ao
 obtain ⟨bm, ar⟩ := bi
 refine ck aq 105 #[pt b1 0, i6 (w64 ((max (u0.abs.length : Int) (u2.abs.length : Int)) + 1))] ?_
 obtain ⟨d, bn, au⟩ := hxq ar; clear ar
 have l := glow_fun u0 (w64 ((max (u0.abs.length : Int) (u2.abs.length : Int)) + 1)) bm b1 ao2 cap3 _ _ _ _ _ _ hs4 L L.fz; rw [bn] at l; refine l.mono ?_; clear l; rintro _ bo ⟨i, f, v, x, bp, rfl, U, q, hm⟩; refine ⟨_, rfl, ?_⟩; intro cy av; have aw := hm; clear hm L aq
 replace hs4 := hs4.mono U
 replace hs8 := hs8.mono U
 replace p := Fz.le.trans p U
 have G : Mem B [] w0 Z0 ((.own (tyInt .u32) 143 i f d.1) :: (.row b1 [.bool d.2.neg, .slice v d.2.abs.length x] 117) :: (.row b5 [.bool u2.neg, .slice ao6 u2.abs.length cap7] 117) :: Rr) bp bo := aw; clear aw
 have ax := au (G.ownSmall 0 rfl); clear au
 have bq := ax (q.small); clear ax
 refine bt av G 2 [] [] [(26, pt b5 0), (27, i6 (w64 ((max (u0.abs.length : Int) (u2.abs.length : Int)) + 1)))] ?_; intro cz ay; clear av
 obtain ⟨br, az⟩ := bq
 refine ck ay 105 #[pt b5 0, i6 (w64 ((max (u0.abs.length : Int) (u2.abs.length : Int)) + 1))] ?_
 obtain ⟨a, bs, aA⟩ := hxq az; clear az
 have l := glow_fun u2 (w64 ((max (u0.abs.length : Int) (u2.abs.length : Int)) + 1)) br b5 ao6 cap7 _ _ _ _ _ _ hs8 (G.perm (pk 2 rfl)) G.fz; rw [bs] at l; refine l.mono ?_; clear l; rintro _ aB ⟨n, o, y, z, bu, rfl, M, D, hm⟩; refine ⟨_, rfl, ?_⟩; intro cA aC; have aD := hm; clear hm G ay
 replace hs4 := hs4.mono M
 replace hs8 := hs8.mono M
 replace q := q.mono M
 replace p := Fz.le.trans p M
 have N : Mem B [] w0 Z0 ((.own (tyInt .u32) 143 n o a.1) :: (.row b5 [.bool a.2.neg, .slice y a.2.abs.length z] 117) :: (.own (tyInt .u32) 143 i f d.1) :: (.row b1 [.bool d.2.neg, .slice v d.2.abs.length x] 117) :: Rr) bu aB := aD; clear aD
 have aE := aA (N.ownSmall 0 rfl); clear aA
 have bv := aE (D.small); clear aE
 refine bt aC N 2 [] [] [(8, .slice i d.1.length f), (9, .slice n a.1.length o)] ?_; intro cB aF; clear aC
 refine nlH (ap _ _ ?_); clear ap bl
 refine wp_seq ?_
 refine sqB aF N [] [] [(10, i6 0)] ?_; intro aG aH; clear aF
 refine wp_block ?_
 have aI : Fr 47 [] [⟨0, [], pt b1 0⟩, ⟨7, [], i6 (w64 ((max (u0.abs.length : Int) (u2.abs.length : Int)) + 1))⟩, ⟨8, [], .slice i d.1.length f⟩, ⟨9, [], .slice n a.1.length o⟩, ⟨10, [], i6 0⟩] aG := aH.region (by kernel_rfl) (by kernel_rfl); clear aH
 obtain ⟨H, I, aJ, V⟩ := N.freeze 0 rfl
 replace hs4 := hs4.mono I
 replace hs8 := hs8.mono I
 replace q := q.mono I
 replace D := D.mono I
 replace p := Fz.le.trans p I
 have aK : Mem B [] w0 Z0 ((.row b5 [.bool a.2.neg, .slice y a.2.abs.length z] 117) :: (.own (tyInt .u32) 143 i f d.1) :: (.row b1 [.bool d.2.neg, .slice v d.2.abs.length x] 117) :: Rr) H aB := aJ; clear aJ
 have aL : Fr 47 [] [⟨0, [], pt b1 0⟩, ⟨7, [], i6 (w64 ((max (u0.abs.length : Int) (u2.abs.length : Int)) + 1))⟩, ⟨8, [], .slice i d.1.length f⟩, ⟨9, [], .slice n a.1.length o⟩, ⟨10, [], i6 0⟩] aG := aI.region (by kernel_rfl) (by kernel_rfl); clear aI
 obtain ⟨bw, bx, bz, bA⟩ := bv
 refine lp (ι := Int × (List Int)) (fun s => [⟨0, [], pt b1 0⟩, ⟨7, [], i6 (w64 ((max (u0.abs.length : Int) (u2.abs.length : Int)) + 1))⟩, ⟨8, [], .slice i s.2.length f⟩, ⟨9, [], .slice n a.1.length o⟩, ⟨10, [], i6 s.1⟩]) (fun s => ((.row b5 [.bool a.2.neg, .slice y a.2.abs.length z] 117) :: (.own (tyInt .u32) 143 i f s.2) :: (.row b1 [.bool d.2.neg, .slice v d.2.abs.length x] 117) :: Rr)) (fun s => H) (fun s => bw s.1 s.2) (fun s => bx s.1 s.2) ⟨0, d.1⟩ bz (by exact aL.region (by kernel_rfl) (by kernel_rfl)) (by exact aK) ?_
 rintro ⟨c, h⟩ bB bC bD aM aN
 have aO : Fr 47 [] [⟨0, [], pt b1 0⟩, ⟨7, [], i6 (w64 ((max (u0.abs.length : Int) (u2.abs.length : Int)) + 1))⟩, ⟨8, [], .slice i h.length f⟩, ⟨9, [], .slice n a.1.length o⟩, ⟨10, [], i6 c⟩] bC := aM; clear aM aL
 have A : Mem B [] w0 Z0 ((.row b5 [.bool a.2.neg, .slice y a.2.abs.length z] 117) :: (.own (tyInt .u32) 143 i f h) :: (.row b1 [.bool d.2.neg, .slice v d.2.abs.length x] 117) :: Rr) H bD := aN; clear aN aK
 have O := bA c h bB
 refine wp_seq ?_
 refine sqB aO A [] [] [(31, .bool (decide (c < (w64 ((max (u0.abs.length : Int) (u2.abs.length : Int)) + 1)))))] ?_; intro bE J; clear aO
 refine cd J (t := decide (c < (w64 ((max (u0.abs.length : Int) (u2.abs.length : Int)) + 1)))) (by kernel_rfl) (fun W => ?_) (fun W => ?_)
 · -- yes
  have bF := O.1 W; clear O
  refine wp_skip ?_
  refine thn ?_
  refine wp_seq ?_
  refine wp_block ?_
  have aP : Fr 47 [] [⟨0, [], pt b1 0⟩, ⟨7, [], i6 (w64 ((max (u0.abs.length : Int) (u2.abs.length : Int)) + 1))⟩, ⟨8, [], .slice i h.length f⟩, ⟨9, [], .slice n a.1.length o⟩, ⟨10, [], i6 c⟩] bE := J.region (by kernel_rfl) (by kernel_rfl); clear J
  refine rgS mixed A [(0, true), (1, true), (4, true), (5, true), (6, true), (7, true), (2, false), (3, false), (8, true), (9, false), (10, false)] [9, 10] [] [] ?_
  intro bG aQ cC C; clear A
  have aR := Fz.le.refl H
  refine cS aP 4 [] [] [(34, .slice i h.length f), (35, i6 c), (38, .slice n a.1.length o), (39, i6 c)] ?_; intro cD aS; clear aP
  obtain ⟨bH, aT⟩ := bF
  refine cix rfl aS (T := (tyInt .u32)) (xs := a.1) V c bH (k := .i64) (e := 143) (bytes := 4) (nog rfl _) rfl (by kernel_rfl) rfl (by kernel_rfl) (by kernel_rfl) (by kernel_rfl) ?_; intro bI bJ bK j cE bL bM bN X; clear aS
  have bO := aT j bL; clear aT
  obtain rfl : bK = ([.int .u32 j] : List Value) := bN
  refine cst rfl X (.int .u32 j) (nog rfl _) rfl (by kernel_rfl) (fun v167 hC => lz X hC.fz bM 0 (g := []) rfl (by kernel_rfl) (by kernel_rfl) (by kernel_rfl) rfl) ?_; intro cF aU; clear X
  refine eS rfl ?_; intro bP aV
  obtain ⟨bQ, aW⟩ := bO
  refine ixo aU C 1 (T := (tyInt .u32)) (xs := h) c bQ (k := .i64) (e := 143) (bytes := 4) (nog rfl _) rfl (by kernel_rfl) rfl (by kernel_rfl) (by kernel_rfl) rfl (by kernel_rfl) ?_; intro E cG bR aX; clear aU
  subst bR
  refine nl (qnI (aV _ _ (C.cst aR []) ?_)); clear aV bP
  refine eS rfl ?_; intro bS aY
  obtain ⟨m, bT, bU⟩ := gxq aW (by first | omega | (simp only [List.length_set] at *; omega)); clear aW
  obtain ⟨bV, bW, bX⟩ := own_el C 1 (T := (tyInt .u32)) (xs := h) rfl c.toNat bT
  obtain rfl : bV = ([.int .u32 m] : List Value) := bW
  refine lc1 aX 37 (.int .u32 m) (bX 0 _ rfl) rfl ?_; intro cH aZ; clear aX
  refine nl (qnI (aY _ _ (C.cst aR []) ?_)); clear aY bS
  refine cS aZ 1 [] [] [(42, .int .u32 (bXor .u32 m j))] ?_; intro cI a1; clear aZ
  refine eL rfl ?_; intro bY a2
  obtain ⟨bZ, a3⟩ := bU
  refine ixo a1 C 1 (T := (tyInt .u32)) (xs := h) c bZ (k := .i64) (e := 143) (bytes := 4) (nog rfl _) rfl (by kernel_rfl) rfl (by kernel_rfl) (by kernel_rfl) rfl (by kernel_rfl) ?_; intro b0 b2 b3 P; clear a1
  obtain rfl : E = b0 := by simpa using b3
  refine nl (qnI (a2 _ _ ?_)); clear a2 bY
  refine eL rfl ?_; intro b4 a4
  refine so P C 1 (T := (tyInt .u32)) (xs := h) c.toNat (bXor .u32 m j) (u := .int .u32 (bXor .u32 m j)) (nog rfl _) rfl rfl (by kernel_rfl) rfl (by kernel_rfl) rfl (by kernel_rfl) (by first | omega | (simp only [List.length_set] at *; omega)) rfl ?_; intro b6 a5; clear C
  have a6 : Fr 47 [] [⟨0, [], pt b1 0⟩, ⟨7, [], i6 (w64 ((max (u0.abs.length : Int) (u2.abs.length : Int)) + 1))⟩, ⟨8, [], .slice (sm E) (h.set c.toNat (bXor .u32 m j)).length f⟩, ⟨9, [], .slice n a.1.length o⟩, ⟨10, [], i6 c⟩, ⟨34, [], .slice (sm E) (h.set c.toNat (bXor .u32 m j)).length f⟩, ⟨35, [], i6 c⟩, ⟨36, [], .pointer (some ⟨E, c.toNat * 1, none⟩)⟩, ⟨37, [], .int .u32 m⟩, ⟨38, [], .slice n a.1.length o⟩, ⟨39, [], i6 c⟩, ⟨40, [], pt bI bJ⟩, ⟨41, [], .int .u32 j⟩, ⟨42, [], .int .u32 (bXor .u32 m j)⟩, ⟨43, [], .pointer (some ⟨E, c.toNat * 1, none⟩)⟩] b2 := by (try simp only [List.length_set] at P); (try simp only [List.length_set]); exact P.region (by kernel_rfl) (by kernel_rfl)
  clear P
  have a7 : Mem B [] w0 Z0 ((.row b5 [.bool a.2.neg, .slice y a.2.abs.length z] 117) :: (.own (tyInt .u32) 143 (sm E) f (h.set c.toNat (bXor .u32 m j))) :: (.row b1 [.bool d.2.neg, .slice v d.2.abs.length x] 117) :: Rr) H b6 := a5; clear a5
  refine nl (qnI (a4 _ _ ?_)); clear a4 b4
  refine nS (aQ _ _ ?_); clear aQ bG
  refine ibn ?_
  refine thn ?_
  refine rgB a6 a7 [] [] [(10, i6 (w64 (c + 1)))] ?_; intro cJ b7; clear a6
  refine rd ?_
  exact ⟨⟨w64 (c + 1), h.set c.toNat (bXor .u32 m j)⟩, a3.1, a3.2, (b7.region (by kernel_rfl) (by kernel_rfl)).anyβ _ (by kernel_rfl), a7.keep (List.Sublist.cons_cons _ (List.Sublist.cons_cons _ (List.Sublist.cons_cons _ (List.Sublist.refl _))))⟩
 · -- no
  have b8 := O.2 W; clear O
  refine wp_exit ?_
  refine thx ?_
  refine thx ?_
  refine ibx ?_
  refine thn ?_
  refine sqH ?_; intro b9 a8
  refine bt J A 2 [] [] [(44, pt b1 0), (45, .slice i h.length f)] ?_; intro cK a9; clear J
  obtain ⟨ca, ba⟩ := b8
  refine ck a9 106 #[pt b1 0, .slice i h.length f] ?_
  obtain ⟨Y, cb, bb⟩ := hxq ba; clear ba
  have l := gof_fun d.2 h ca b1 v x i f _ _ _ _ _ _ q (A.perm ((pk 2 rfl).trans (((pk 1 rfl).trans ((List.Perm.refl _).cons _)).cons _))) A.fz; rw [cb] at l; refine l.mono ?_; clear l; rintro _ cc ⟨bc, bd, be, rfl, F, bf, hm⟩; refine ⟨_, rfl, ?_⟩; intro cL bg; have bh := hm; clear hm A a9
  replace hs4 := hs4.mono F
  replace hs8 := hs8.mono F
  replace q := q.mono F
  replace D := D.mono F
  replace V := V.mono F
  replace p := Fz.le.trans p F
  have ce : Mem B [] w0 Z0 ((.row b1 [.bool Y.neg, .slice bc Y.abs.length bd] 117) :: (.row b5 [.bool a.2.neg, .slice y a.2.abs.length z] 117) :: Rr) be cc := bh; clear bh
  have cf := bb (bf.small); clear bb
  refine s1 bg 6 (pt b1 0) ?_; intro cM cg; clear bg
  refine nlH (a8 _ _ ?_); clear a8 b9
  refine wp_ret ?_
  refine ra1 cg (pt b1 0) ?_
  exact ⟨(Y, a.2), bc, bd, y, z, be, rfl, cf, p, bf, D, ce.keep (List.Sublist.cons_cons _ (List.Sublist.cons_cons _ (List.Sublist.refl _)))⟩

theorem gsetbit_walk (u0 : BInt) (u2 : Int) (u3 : Int) (b1 : Nat) (ao2 : Option Addr) (cap3 : Nat) (B : Nat) (w0 : World) (Z0 : Fz) (Rr : List Res) (Z : Fz) (w : World) (hs4 : SlR (tyInt .u32) Z ao2 cap3 u0.abs) (hM0 : Mem B [] w0 Z0 ((.row b1 [.bool u0.neg, .slice ao2 u0.abs.length cap3] 117) :: Rr) Z w) (hZ : Z.on w) {K : BInt → Prop} (hp : gsetbit_vc u0 u2 u3 K) : Calls Tryz.prog 83 #[pt b1 0, pt b1 0, i6 u2, y6 u3] w fun e w' => ∃ (r : BInt) (ao1001 : Option Addr) (cap1002 : Nat) (Z' : Fz), e = .returned (pt b1 0) ∧ K r ∧ Fz.le Z Z' ∧ SlR (tyInt .u32) Z' ao1001 cap1002 r.abs ∧ Mem B [] w0 Z0 ((.row b1 [.bool r.neg, .slice ao1001 r.abs.length cap1002] 117) :: Rr) Z' w' := by
 refine enter0 Tryz.func83 rfl rfl (by kernel_rfl) ?_; intro a0 H; have i := Fz.le.refl Z
 have n := hp (hs4.small); clear hp
 refine sqB H hM0 [] [] [] ?_; intro a7 I; clear H
 refine wp_seq ?_
 refine sqB I hM0 [] [] [(12, .bool (decide (u2 < 0)))] ?_; intro bH m; clear I
 refine cd m (t := decide (u2 < 0)) (by kernel_rfl) (fun y => ?_) (fun y => ?_)
 · -- yes
  have aL := n.1 y; clear n
  refine sqH ?_; intro aM J
  refine bt m hM0 2 [] [] [(13, pt b1 0), (14, pt b1 0)] ?_; intro bI L; clear m
  obtain ⟨aN, M⟩ := aL
  refine ck L 107 #[pt b1 0, pt b1 0] ?_
  obtain ⟨z, aO, N⟩ := hxq M; clear M
  have h := gset_fun u0 aN b1 ao2 cap3 _ _ _ _ _ _ hs4 hM0 hM0.fz; rw [aO] at h; refine h.mono ?_; clear h; rintro _ aP ⟨O, P, Q, rfl, R, S, hm⟩; refine ⟨_, rfl, ?_⟩; intro bJ U; have V := hm; clear hm hM0 L
  replace hs4 := hs4.mono R
  replace i := Fz.le.trans i R
  have aQ : Mem B [] w0 Z0 ((.row b1 [.bool z.neg, .slice O z.abs.length P] 117) :: Rr) Q aP := V; clear V
  have aR := N (S.small); clear N
  refine s1 U 8 (pt b1 0) ?_; intro bK aS; clear U
  refine nlH (J _ _ ?_); clear J aM
  refine wp_ret ?_
  refine thr ?_
  refine ra1 aS (pt b1 0) ?_
  exact ⟨z, O, P, Q, rfl, aR, i, S, aQ.keep (List.Sublist.cons_cons _ (List.Sublist.refl _))⟩
 · -- no
  have aT := n.2 y; clear n
  refine wp_skip ?_
  refine thn ?_
  refine sqB m hM0 [0] [] [(9, i6 (w64 ((max (u0.abs.length : Int) (w64 ((w64 (u2.tdiv 32)) + 1))) + 1)))] ?_; intro bL W; clear m
  refine sqH ?_; intro aU X
  refine bt W hM0 2 [] [] [(26, pt b1 0), (27, i6 (w64 ((max (u0.abs.length : Int) (w64 ((w64 (u2.tdiv 32)) + 1))) + 1)))] ?_; intro bM Y; clear W
  obtain ⟨aV, aa⟩ := aT
  refine ck Y 105 #[pt b1 0, i6 (w64 ((max (u0.abs.length : Int) (w64 ((w64 (u2.tdiv 32)) + 1))) + 1))] ?_
  obtain ⟨a, aW, ab⟩ := hxq aa; clear aa
  have h := glow_fun u0 (w64 ((max (u0.abs.length : Int) (w64 ((w64 (u2.tdiv 32)) + 1))) + 1)) aV b1 ao2 cap3 _ _ _ _ _ _ hs4 hM0 hM0.fz; rw [aW] at h; refine h.mono ?_; clear h; rintro _ aX ⟨A, d, o, p, C, rfl, ac, q, hm⟩; refine ⟨_, rfl, ?_⟩; intro bN ad; have ae := hm; clear hm hM0 Y
  replace hs4 := hs4.mono ac
  replace i := Fz.le.trans i ac
  have j : Mem B [] w0 Z0 ((.own (tyInt .u32) 143 A d a.1) :: (.row b1 [.bool a.2.neg, .slice o a.2.abs.length p] 117) :: Rr) C aX := ae; clear ae
  have af := ab (j.ownSmall 0 rfl); clear ab
  have aY := af (q.small); clear af
  refine s1 ad 10 (.slice A a.1.length d) ?_; intro bO ag; clear ad
  refine nlH (X _ _ ?_); clear X aU
  refine sqH ?_; intro aZ ah
  refine bt ag j 3 [] [] [(29, .slice A a.1.length d), (31, i6 (w64 (u2.tdiv 32)))] ?_; intro bP ai; clear ag
  obtain ⟨a1, aj⟩ := aY
  refine ixo ai j 0 (T := (tyInt .u32)) (xs := a.1) (w64 (u2.tdiv 32)) a1 (k := .i64) (e := 143) (bytes := 4) (nog rfl _) rfl (by kernel_rfl) rfl (by kernel_rfl) (by kernel_rfl) rfl (by kernel_rfl) ?_; intro c bQ a2 ak; clear ai
  subst a2
  obtain ⟨b, a3, a4⟩ := gxq aj (by first | omega | (simp only [List.length_set] at *; omega)); clear aj
  obtain ⟨a5, a6, a8⟩ := own_el j 0 (T := (tyInt .u32)) (xs := a.1) rfl (w64 (u2.tdiv 32)).toNat a3
  obtain rfl : a5 = ([.int .u32 b] : List Value) := a6
  refine lc1 ak 33 (.int .u32 b) (a8 0 _ rfl) rfl ?_; intro bR al; clear ak
  refine bt al j 3 [] [] [(36, y6 ((wu64 u2).tmod 32))] ?_; intro bS D; clear al
  obtain ⟨a9, ba⟩ := a4
  refine st D (.int .u32 (bShl .u32 1 ((wu64 u2).tmod 32))) (nog rfl _) rfl (by kernel_rfl) (shl_run D (g := []) (k' := .u64) rfl (by kernel_rfl) (by kernel_rfl) a9 rfl) ?_; intro bT am; clear D
  refine s1 am 38 (.int .u32 (bAndNot .u32 b (bShl .u32 1 ((wu64 u2).tmod 32)))) ?_; intro bU an; clear am
  obtain ⟨bb, bc⟩ := ba
  refine ixo an j 0 (T := (tyInt .u32)) (xs := a.1) (w64 (u2.tdiv 32)) bb (k := .i64) (e := 143) (bytes := 4) (nog rfl _) rfl (by kernel_rfl) rfl (by kernel_rfl) (by kernel_rfl) rfl (by kernel_rfl) ?_; intro bd be bf s; clear an
  obtain rfl : c = bd := by simpa using bf
  refine so s j 0 (T := (tyInt .u32)) (xs := a.1) (w64 (u2.tdiv 32)).toNat (bAndNot .u32 b (bShl .u32 1 ((wu64 u2).tmod 32))) (u := .int .u32 (bAndNot .u32 b (bShl .u32 1 ((wu64 u2).tmod 32)))) (nog rfl _) rfl rfl (by kernel_rfl) rfl (by kernel_rfl) rfl (by kernel_rfl) (by first | omega | (simp only [List.length_set] at *; omega)) rfl ?_; intro bg ao; clear j
  have ap : Fr 57 [] [⟨0, [], pt b1 0⟩, ⟨1, [], pt b1 0⟩, ⟨2, [], i6 u2⟩, ⟨3, [], y6 u3⟩, ⟨9, [], i6 (w64 ((max (u0.abs.length : Int) (w64 ((w64 (u2.tdiv 32)) + 1))) + 1))⟩, ⟨10, [], .slice (sm c) (a.1.set (w64 (u2.tdiv 32)).toNat (bAndNot .u32 b (bShl .u32 1 ((wu64 u2).tmod 32)))).length d⟩, ⟨12, [], .bool (decide (u2 < 0))⟩, ⟨26, [], pt b1 0⟩, ⟨27, [], i6 (w64 ((max (u0.abs.length : Int) (w64 ((w64 (u2.tdiv 32)) + 1))) + 1))⟩, ⟨28, [], .slice (sm c) (a.1.set (w64 (u2.tdiv 32)).toNat (bAndNot .u32 b (bShl .u32 1 ((wu64 u2).tmod 32)))).length d⟩, ⟨29, [], .slice (sm c) (a.1.set (w64 (u2.tdiv 32)).toNat (bAndNot .u32 b (bShl .u32 1 ((wu64 u2).tmod 32)))).length d⟩, ⟨31, [], i6 (w64 (u2.tdiv 32))⟩, ⟨32, [], .pointer (some ⟨c, (w64 (u2.tdiv 32)).toNat * 1, none⟩)⟩, ⟨33, [], .int .u32 b⟩, ⟨36, [], y6 ((wu64 u2).tmod 32)⟩, ⟨37, [], .int .u32 (bShl .u32 1 ((wu64 u2).tmod 32))⟩, ⟨38, [], .int .u32 (bAndNot .u32 b (bShl .u32 1 ((wu64 u2).tmod 32)))⟩, ⟨39, [], .pointer (some ⟨c, (w64 (u2.tdiv 32)).toNat * 1, none⟩)⟩] be := by (try simp only [List.length_set] at s); (try simp only [List.length_set]); exact s.region (by kernel_rfl) (by kernel_rfl)
  clear s
  have l : Mem B [] w0 Z0 ((.own (tyInt .u32) 143 (sm c) d (a.1.set (w64 (u2.tdiv 32)).toNat (bAndNot .u32 b (bShl .u32 1 ((wu64 u2).tmod 32))))) :: (.row b1 [.bool a.2.neg, .slice o a.2.abs.length p] 117) :: Rr) C bg := ao; clear ao
  refine nlH (ah _ _ ?_); clear ah aZ
  refine sqH ?_; intro bh aq
  refine bt ap l 3 [] [] [(40, .slice (sm c) (a.1.set (w64 (u2.tdiv 32)).toNat (bAndNot .u32 b (bShl .u32 1 ((wu64 u2).tmod 32)))).length d), (42, i6 (w64 (u2.tdiv 32)))] ?_; intro bV ar; clear ap
  obtain ⟨bi, au⟩ := bc
  refine ixo ar l 0 (T := (tyInt .u32)) (xs := a.1.set (w64 (u2.tdiv 32)).toNat (bAndNot .u32 b (bShl .u32 1 ((wu64 u2).tmod 32)))) (w64 (u2.tdiv 32)) bi (k := .i64) (e := 143) (bytes := 4) (nog rfl _) rfl (by kernel_rfl) rfl (by kernel_rfl) (by kernel_rfl) rfl (by kernel_rfl) ?_; intro bj bW bk av; clear ar
  obtain rfl : c = bj := by simpa using bk
  obtain ⟨f, bl, bm⟩ := gxq au (by first | omega | (simp only [List.length_set] at *; omega)); clear au
  obtain ⟨bn, bo, bp⟩ := own_el l 0 (T := (tyInt .u32)) (xs := a.1.set (w64 (u2.tdiv 32)).toNat (bAndNot .u32 b (bShl .u32 1 ((wu64 u2).tmod 32)))) rfl (w64 (u2.tdiv 32)).toNat bl
  obtain rfl : bn = ([.int .u32 f] : List Value) := bo
  refine lc1 av 44 (.int .u32 f) (bp 0 _ rfl) rfl ?_; intro bX aw; clear av
  refine bt aw l 6 [] [] [(47, .int .u32 (wu32 (bAnd .u64 u3 1))), (50, y6 ((wu64 u2).tmod 32))] ?_; intro bY E; clear aw
  obtain ⟨bq, br⟩ := bm
  refine st E (.int .u32 (bShl .u32 (wu32 (bAnd .u64 u3 1)) ((wu64 u2).tmod 32))) (nog rfl _) rfl (by kernel_rfl) (shl_run E (g := []) (k' := .u64) rfl (by kernel_rfl) (by kernel_rfl) bq rfl) ?_; intro bZ ax; clear E
  refine s1 ax 52 (.int .u32 (bOr .u32 f (bShl .u32 (wu32 (bAnd .u64 u3 1)) ((wu64 u2).tmod 32)))) ?_; intro b0 ay; clear ax
  obtain ⟨bs, bu⟩ := br
  refine ixo ay l 0 (T := (tyInt .u32)) (xs := a.1.set (w64 (u2.tdiv 32)).toNat (bAndNot .u32 b (bShl .u32 1 ((wu64 u2).tmod 32)))) (w64 (u2.tdiv 32)) bs (k := .i64) (e := 143) (bytes := 4) (nog rfl _) rfl (by kernel_rfl) rfl (by kernel_rfl) (by kernel_rfl) rfl (by kernel_rfl) ?_; intro bv bw bx v; clear ay
  obtain rfl : c = bv := by simpa using bx
  refine so v l 0 (T := (tyInt .u32)) (xs := a.1.set (w64 (u2.tdiv 32)).toNat (bAndNot .u32 b (bShl .u32 1 ((wu64 u2).tmod 32)))) (w64 (u2.tdiv 32)).toNat (bOr .u32 f (bShl .u32 (wu32 (bAnd .u64 u3 1)) ((wu64 u2).tmod 32))) (u := .int .u32 (bOr .u32 f (bShl .u32 (wu32 (bAnd .u64 u3 1)) ((wu64 u2).tmod 32)))) (nog rfl _) rfl rfl (by kernel_rfl) rfl (by kernel_rfl) rfl (by kernel_rfl) (by first | omega | (simp only [List.length_set] at *; omega)) rfl ?_; intro bz az; clear l
  have aA : Fr 57 [] [⟨0, [], pt b1 0⟩, ⟨1, [], pt b1 0⟩, ⟨2, [], i6 u2⟩, ⟨3, [], y6 u3⟩, ⟨9, [], i6 (w64 ((max (u0.abs.length : Int) (w64 ((w64 (u2.tdiv 32)) + 1))) + 1))⟩, ⟨10, [], .slice (sm c) ((a.1.set (w64 (u2.tdiv 32)).toNat (bAndNot .u32 b (bShl .u32 1 ((wu64 u2).tmod 32)))).set (w64 (u2.tdiv 32)).toNat (bOr .u32 f (bShl .u32 (wu32 (bAnd .u64 u3 1)) ((wu64 u2).tmod 32)))).length d⟩, ⟨12, [], .bool (decide (u2 < 0))⟩, ⟨26, [], pt b1 0⟩, ⟨27, [], i6 (w64 ((max (u0.abs.length : Int) (w64 ((w64 (u2.tdiv 32)) + 1))) + 1))⟩, ⟨28, [], .slice (sm c) ((a.1.set (w64 (u2.tdiv 32)).toNat (bAndNot .u32 b (bShl .u32 1 ((wu64 u2).tmod 32)))).set (w64 (u2.tdiv 32)).toNat (bOr .u32 f (bShl .u32 (wu32 (bAnd .u64 u3 1)) ((wu64 u2).tmod 32)))).length d⟩, ⟨29, [], .slice (sm c) ((a.1.set (w64 (u2.tdiv 32)).toNat (bAndNot .u32 b (bShl .u32 1 ((wu64 u2).tmod 32)))).set (w64 (u2.tdiv 32)).toNat (bOr .u32 f (bShl .u32 (wu32 (bAnd .u64 u3 1)) ((wu64 u2).tmod 32)))).length d⟩, ⟨31, [], i6 (w64 (u2.tdiv 32))⟩, ⟨32, [], .pointer (some ⟨c, (w64 (u2.tdiv 32)).toNat * 1, none⟩)⟩, ⟨33, [], .int .u32 b⟩, ⟨36, [], y6 ((wu64 u2).tmod 32)⟩, ⟨37, [], .int .u32 (bShl .u32 1 ((wu64 u2).tmod 32))⟩, ⟨38, [], .int .u32 (bAndNot .u32 b (bShl .u32 1 ((wu64 u2).tmod 32)))⟩, ⟨39, [], .pointer (some ⟨c, (w64 (u2.tdiv 32)).toNat * 1, none⟩)⟩, ⟨40, [], .slice (sm c) ((a.1.set (w64 (u2.tdiv 32)).toNat (bAndNot .u32 b (bShl .u32 1 ((wu64 u2).tmod 32)))).set (w64 (u2.tdiv 32)).toNat (bOr .u32 f (bShl .u32 (wu32 (bAnd .u64 u3 1)) ((wu64 u2).tmod 32)))).length d⟩, ⟨42, [], i6 (w64 (u2.tdiv 32))⟩, ⟨43, [], .pointer (some ⟨c, (w64 (u2.tdiv 32)).toNat * 1, none⟩)⟩, ⟨44, [], .int .u32 f⟩, ⟨47, [], .int .u32 (wu32 (bAnd .u64 u3 1))⟩, ⟨50, [], y6 ((wu64 u2).tmod 32)⟩, ⟨51, [], .int .u32 (bShl .u32 (wu32 (bAnd .u64 u3 1)) ((wu64 u2).tmod 32))⟩, ⟨52, [], .int .u32 (bOr .u32 f (bShl .u32 (wu32 (bAnd .u64 u3 1)) ((wu64 u2).tmod 32)))⟩, ⟨53, [], .pointer (some ⟨c, (w64 (u2.tdiv 32)).toNat * 1, none⟩)⟩] bw := by (try simp only [List.length_set] at v); (try simp only [List.length_set]); exact v.region (by kernel_rfl) (by kernel_rfl)
  clear v
  have x : Mem B [] w0 Z0 ((.own (tyInt .u32) 143 (sm c) d ((a.1.set (w64 (u2.tdiv 32)).toNat (bAndNot .u32 b (bShl .u32 1 ((wu64 u2).tmod 32)))).set (w64 (u2.tdiv 32)).toNat (bOr .u32 f (bShl .u32 (wu32 (bAnd .u64 u3 1)) ((wu64 u2).tmod 32))))) :: (.row b1 [.bool a.2.neg, .slice o a.2.abs.length p] 117) :: Rr) C bz := az; clear az
  refine nlH (aq _ _ ?_); clear aq bh
  refine sqH ?_; intro bA aB
  refine bt aA x 2 [] [] [(54, pt b1 0), (55, .slice (sm c) ((a.1.set (w64 (u2.tdiv 32)).toNat (bAndNot .u32 b (bShl .u32 1 ((wu64 u2).tmod 32)))).set (w64 (u2.tdiv 32)).toNat (bOr .u32 f (bShl .u32 (wu32 (bAnd .u64 u3 1)) ((wu64 u2).tmod 32)))).length d)] ?_; intro b2 aC; clear aA
  obtain ⟨bB, aD⟩ := bu
  refine ck aC 106 #[pt b1 0, .slice (sm c) ((a.1.set (w64 (u2.tdiv 32)).toNat (bAndNot .u32 b (bShl .u32 1 ((wu64 u2).tmod 32)))).set (w64 (u2.tdiv 32)).toNat (bOr .u32 f (bShl .u32 (wu32 (bAnd .u64 u3 1)) ((wu64 u2).tmod 32)))).length d] ?_
  obtain ⟨F, bC, aE⟩ := hxq aD; clear aD
  have h := gof_fun a.2 ((a.1.set (w64 (u2.tdiv 32)).toNat (bAndNot .u32 b (bShl .u32 1 ((wu64 u2).tmod 32)))).set (w64 (u2.tdiv 32)).toNat (bOr .u32 f (bShl .u32 (wu32 (bAnd .u64 u3 1)) ((wu64 u2).tmod 32)))) bB b1 o p (sm c) d _ _ _ _ _ _ q (x.perm ((pk 1 rfl).trans ((List.Perm.refl _).cons _))) x.fz; rw [bC] at h; refine h.mono ?_; clear h; rintro _ bD ⟨aF, aG, aH, rfl, G, aI, hm⟩; refine ⟨_, rfl, ?_⟩; intro b3 aJ; have aK := hm; clear hm x aC
  replace hs4 := hs4.mono G
  replace q := q.mono G
  replace i := Fz.le.trans i G
  have bE : Mem B [] w0 Z0 ((.row b1 [.bool F.neg, .slice aF F.abs.length aG] 117) :: Rr) aH bD := aK; clear aK
  have bF := aE (aI.small); clear aE
  refine s1 aJ 8 (pt b1 0) ?_; intro b4 bG; clear aJ
  refine nlH (aB _ _ ?_); clear aB bA
  refine wp_ret ?_
  refine ra1 bG (pt b1 0) ?_
  exact ⟨F, aF, aG, aH, rfl, bF, i, aI, bE.keep (List.Sublist.cons_cons _ (List.Sublist.refl _))⟩

theorem gnew_walk (u0 : Int)  (Z : Fz) (w : World)  (hZ : Z.on w) {K : BInt → Prop} (hp : gnew_vc u0 K) : Calls Tryz.prog 81 #[i6 u0] w fun e w' => ∃ (r : BInt) (b1001 : Nat) (ao1002 : Option Addr) (cap1003 : Nat) (Z' : Fz), e = .returned (pt b1001 0) ∧ K r ∧ SlR (tyInt .u32) Z' ao1002 cap1003 r.abs ∧ Mem w.heap.size [] w Z [.row b1001 [.bool r.neg, .slice ao1002 r.abs.length cap1003] 117] Z' w' := by
 refine enter0 Tryz.func81 rfl rfl (by kernel_rfl) ?_; intro E g; have b := Mem.start w Z hZ; have h := Fz.le.refl Z
 refine sqB g b [] [] [] ?_; intro F i; clear g
 refine sqH ?_; intro v j
 refine nw i b pb [.bool false, .slice none 0 0] 117 ?_; intro a G H k c; clear i b
 refine s1 k 4 (i6 u0) ?_; intro I l; clear k
 obtain ⟨x, m⟩ := hp
 refine ck l 104 #[pt a 0, i6 u0] ?_
 obtain ⟨d, y, n⟩ := hxq m; clear m
 have f := gseti_fun (⟨false, []⟩ : BInt) u0 x a none 0 _ _ _ _ _ _ (SlR.nil _ _) c c.fz; rw [y] at f; refine f.mono ?_; clear f; rintro _ z ⟨o, p, q, rfl, A, s, hm⟩; refine ⟨_, rfl, ?_⟩; intro J t; have u := hm; clear hm c l
 replace h := Fz.le.trans h A
 have B : Mem w.heap.size [] w Z [.row a [.bool d.neg, .slice o d.abs.length p] 117] q z := u; clear u
 have C := n (s.small); clear n
 refine s1 t 2 (pt a 0) ?_; intro L D; clear t
 refine nlH (j _ _ ?_); clear j v
 refine wp_ret ?_
 refine ra1 D (pt a 0) ?_
 exact ⟨d, a, o, p, q, rfl, C, s, B.keep (List.Sublist.cons_cons _ (List.Sublist.slnil))⟩

theorem rvalue_walk (u0 : List UInt8)  (Z : Fz) (w : World)  (hZ : Z.on w) {K : BInt → Prop} (hp : rvalue_vc u0 K) : Calls Tryz.prog 79 #[str u0] w fun e w' => ∃ (r : BInt) (b1001 : Nat) (ao1002 : Option Addr) (cap1003 : Nat) (Z' : Fz), e = .returned (pt b1001 0) ∧ K r ∧ SlR (tyInt .u32) Z' ao1002 cap1003 r.abs ∧ Mem w.heap.size [] w Z [.row b1001 [.bool r.neg, .slice ao1002 r.abs.length cap1003] 117] Z' w' := by
 refine enter0 Tryz.func79 rfl rfl (by kernel_rfl) ?_; intro O i; have d := Mem.start w Z hZ; have j := Fz.le.refl Z
 refine sqB i d [] [] [] ?_; intro P k; clear i
 refine sqH ?_; intro C l
 refine nw k d pb [.bool false, .slice none 0 0] 117 ?_; intro a Q R m b; clear k d
 refine s1 m 3 (pt a 0) ?_; intro S n; clear m
 refine nlH (l _ _ ?_); clear l C
 refine wp_seq ?_
 refine sqB n b [] [17] [(6, .bool (u0 != ([] : List UInt8)))] ?_; intro T c; clear n
 refine cd c (t := u0 != ([] : List UInt8)) (by kernel_rfl) (fun f => ?_) (fun f => ?_)
 · -- yes
  have D := hp.1 f; clear hp
  refine rgH ?_; intro E o
  refine bt c b 2 [] [] [(7, pt a 0), (8, str u0)] ?_; intro U p; clear c
  obtain ⟨F, q⟩ := D
  refine ck p 101 #[pt a 0, str u0, i6 2] ?_
  obtain ⟨g, G, s⟩ := hxq q; clear q
  have h := gsetstr_fun (⟨false, []⟩ : BInt) u0 F a none 0 _ _ _ _ _ _ (SlR.nil _ _) b b.fz; rw [G] at h; refine h.mono ?_; clear h; rintro _ H ⟨u, v, x, rfl, I, y, hm⟩; refine ⟨_, rfl, ?_⟩; intro V z; have A := hm; clear hm b p
  replace j := Fz.le.trans j I
  have B : Mem w.heap.size [] w Z [.row a [.bool g.2.2.neg, .slice u g.2.2.abs.length v] 117] x H := A; clear A
  have J := s (y.small); clear s
  refine nlH (o _ _ ?_); clear o E
  refine thn ?_
  refine sqB z B [] [] [(2, pt a 0)] ?_; intro W L; clear z
  refine wp_ret ?_
  refine ra1 L (pt a 0) ?_
  exact ⟨g.2.2, a, u, v, x, rfl, J, y, B.keep (List.Sublist.cons_cons _ (List.Sublist.slnil))⟩
 · -- no
  have M := hp.2 f; clear hp
  refine wp_skip ?_
  refine thn ?_
  refine sqB c b [] [] [(2, pt a 0)] ?_; intro X N; clear c
  refine wp_ret ?_
  refine ra1 N (pt a 0) ?_
  exact ⟨(⟨false, []⟩ : BInt), a, none, 0, Z, rfl, M, (SlR.nil _ _), b.keep (List.Sublist.cons_cons _ (List.Sublist.slnil))⟩

end Go.Proofs.YtmbdcehmeiiaoaaGreatDoor
set_option linter.unusedVariables false
set_option linter.unusedSimpArgs false
namespace Go.Proofs.YtmbdcehmeiiaoaaGreatDoor
open Go.Sy Go.RowKit
theorem gxor_fun (u0 : BInt) (u2 : BInt) (hpre : (u0.neg = false ∧ wok u0.abs ∧ u0.abs.length ≤ 1000) ∧ u2.neg = false ∧ wok u2.abs ∧ u2.abs.length ≤ 1000) (b1 : Nat) (ao2 : Option Addr) (cap3 : Nat) (b5 : Nat) (ao6 : Option Addr) (cap7 : Nat) (B : Nat) (w0 : World) (Z0 : Fz) (Rr : List Res) (Z : Fz) (w : World) (hs4 : SlR (tyInt .u32) Z ao2 cap3 u0.abs) (hs8 : SlR (tyInt .u32) Z ao6 cap7 u2.abs) (hM0 : Mem B [] w0 Z0 ((.row b1 [.bool u0.neg, .slice ao2 u0.abs.length cap3] 117) :: (.row b5 [.bool u2.neg, .slice ao6 u2.abs.length cap7] 117) :: Rr) Z w) (hZ : Z.on w) : Calls Tryz.prog 82 #[pt b1 0, pt b1 0, pt b5 0] w fun e w' => ∃ (ao1001 : Option Addr) (cap1002 : Nat) (ao1004 : Option Addr) (cap1005 : Nat) (Z' : Fz), e = .returned (pt b1 0) ∧ Fz.le Z Z' ∧ SlR (tyInt .u32) Z' ao1001 cap1002 (gxorS u0 u2).1.abs ∧ SlR (tyInt .u32) Z' ao1004 cap1005 (gxorS u0 u2).2.abs ∧ Mem B [] w0 Z0 ((.row b1 [.bool (gxorS u0 u2).1.neg, .slice ao1001 (gxorS u0 u2).1.abs.length cap1002] 117) :: (.row b5 [.bool (gxorS u0 u2).2.neg, .slice ao1004 (gxorS u0 u2).2.abs.length cap1005] 117) :: Rr) Z' w' :=
  (gxor_walk u0 u2 b1 ao2 cap3 b5 ao6 cap7 B w0 Z0 Rr Z w hs4 hs8 hM0 hZ (gxor_ok u0 u2 hpre)).mono fun _ _ ⟨r, h0, h1, h2, h3, h4, he, hk, f0, f1, f2, hm⟩ => by subst hk; exact ⟨h0, h1, h2, h3, h4, he, f0, f1, f2, hm⟩

theorem gsetbit_fun (u0 : BInt) (u2 : Int) (u3 : Int) (hpre : u0.neg = false ∧ u0.abs = ws (wv u0.abs) ∧ wv u0.abs < 2 ^ u2.toNat ∧ 0 ≤ u2 ∧ u2 ≤ 30 ∧ u3 = 1) (b1 : Nat) (ao2 : Option Addr) (cap3 : Nat) (B : Nat) (w0 : World) (Z0 : Fz) (Rr : List Res) (Z : Fz) (w : World) (hs4 : SlR (tyInt .u32) Z ao2 cap3 u0.abs) (hM0 : Mem B [] w0 Z0 ((.row b1 [.bool u0.neg, .slice ao2 u0.abs.length cap3] 117) :: Rr) Z w) (hZ : Z.on w) : Calls Tryz.prog 83 #[pt b1 0, pt b1 0, i6 u2, y6 u3] w fun e w' => ∃ (ao1001 : Option Addr) (cap1002 : Nat) (Z' : Fz), e = .returned (pt b1 0) ∧ Fz.le Z Z' ∧ SlR (tyInt .u32) Z' ao1001 cap1002 (gsetbitS u0 u2 u3).abs ∧ Mem B [] w0 Z0 ((.row b1 [.bool (gsetbitS u0 u2 u3).neg, .slice ao1001 (gsetbitS u0 u2 u3).abs.length cap1002] 117) :: Rr) Z' w' :=
  (gsetbit_walk u0 u2 u3 b1 ao2 cap3 B w0 Z0 Rr Z w hs4 hM0 hZ (gsetbit_ok u0 u2 u3 hpre)).mono fun _ _ ⟨r, h0, h1, h2, he, hk, f0, f1, hm⟩ => by subst hk; exact ⟨h0, h1, h2, he, f0, f1, hm⟩

end Go.Proofs.YtmbdcehmeiiaoaaGreatDoor
namespace Go.Proofs
open Go.Shelf
def Tryz.lays105_ren : Go.Shelf.Ren := ⟨fun | 99 => 43 | 105 => 89 | 165 => 112 | 166 => 98 | 169 => 99 | 170 => 113 | 206 => 77 | 212 => 111 | 240 => 118 | 241 => 134 | 263 => 132 | 264 => 133 | 276 => 138 | 277 => 146 | n => n, fun | 37 => 22 | 46 => 75 | 51 => 143 | 53 => 93 | 70 => 131 | 72 => 133 | 75 => 135 | 76 => 136 | 80 => 73 | 109 => 148 | 127 => 155 | 146 => 164 | 148 => 166 | 164 => 169 | n => n, fun n => n⟩
theorem Tryz.lays105 : Lays.n105 Tryz.prog Tryz.lays105_ren where
  mixed := by kernel_rfl
  f99 := Tryz.func43.trans (congrArg some (by kernel_rfl))
  f105 := Tryz.func89.trans (congrArg some (by kernel_rfl))
  f165 := Tryz.func112.trans (congrArg some (by kernel_rfl))
  f166 := Tryz.func98.trans (congrArg some (by kernel_rfl))
  f169 := Tryz.func99.trans (congrArg some (by kernel_rfl))
  f170 := Tryz.func113.trans (congrArg some (by kernel_rfl))
  f206 := Tryz.func77.trans (congrArg some (by kernel_rfl))
  f212 := Tryz.func111.trans (congrArg some (by kernel_rfl))
  f240 := Tryz.func118.trans (congrArg some (by kernel_rfl))
  f241 := Tryz.func134.trans (congrArg some (by kernel_rfl))
  f263 := Tryz.func132.trans (congrArg some (by kernel_rfl))
  f264 := Tryz.func133.trans (congrArg some (by kernel_rfl))
  f276 := Tryz.func138.trans (congrArg some (by kernel_rfl))
  f277 := Tryz.func146.trans (congrArg some (by kernel_rfl))
  t0 := Tryz.underlying0
  a0 := Tryz.isAgg0
  z0 := Tryz.sizeOf0
  v0 := Tryz.zeroValue0
  t3 := Tryz.underlying3
  a3 := Tryz.isAgg3
  z3 := Tryz.sizeOf3
  v3 := Tryz.zeroValue3
  t4 := Tryz.underlying4
  a4 := Tryz.isAgg4
  z4 := Tryz.sizeOf4
  v4 := Tryz.zeroValue4
  t5 := Tryz.underlying5
  a5 := Tryz.isAgg5
  z5 := Tryz.sizeOf5
  v5 := Tryz.zeroValue5
  t9 := Tryz.underlying9
  a9 := Tryz.isAgg9
  z9 := Tryz.sizeOf9
  v9 := Tryz.zeroValue9
  t20 := Tryz.underlying20
  a20 := Tryz.isAgg20
  z20 := Tryz.sizeOf20
  v20 := Tryz.zeroValue20
  t37 := Tryz.underlying22
  a37 := Tryz.isAgg22
  z37 := Tryz.sizeOf22
  v37 := Tryz.zeroValue22
  t46 := Tryz.underlying75
  a46 := Tryz.isAgg75
  z46 := Tryz.sizeOf75
  v46 := Tryz.zeroValue75
  t51 := Tryz.underlying143
  a51 := Tryz.isAgg143
  z51 := Tryz.sizeOf143
  v51 := Tryz.zeroValue143
  t53 := Tryz.underlying93
  a53 := Tryz.isAgg93
  z53 := Tryz.sizeOf93
  v53 := Tryz.zeroValue93
  t70 := Tryz.underlying131
  a70 := Tryz.isAgg131
  z70 := Tryz.sizeOf131
  v70 := Tryz.zeroValue131
  t72 := Tryz.underlying133
  a72 := Tryz.isAgg133
  z72 := Tryz.sizeOf133
  v72 := Tryz.zeroValue133
  t75 := Tryz.underlying135
  a75 := Tryz.isAgg135
  z75 := Tryz.sizeOf135
  v75 := Tryz.zeroValue135
  t76 := Tryz.underlying136
  a76 := Tryz.isAgg136
  z76 := Tryz.sizeOf136
  v76 := Tryz.zeroValue136
  t109 := Tryz.underlying148
  a109 := Tryz.isAgg148
  z109 := Tryz.sizeOf148
  v109 := Tryz.zeroValue148
  t127 := Tryz.underlying155
  a127 := Tryz.isAgg155
  z127 := Tryz.sizeOf155
  v127 := Tryz.zeroValue155
  t146 := Tryz.underlying164
  a146 := Tryz.isAgg164
  z146 := Tryz.sizeOf164
  v146 := Tryz.zeroValue164
  t148 := Tryz.underlying166
  a148 := Tryz.isAgg166
  z148 := Tryz.sizeOf166
  v148 := Tryz.zeroValue166
  t164 := Tryz.underlying169
  a164 := Tryz.isAgg169
  z164 := Tryz.sizeOf169
  v164 := Tryz.zeroValue169
theorem Tryz.lays105X : Builder.Extra Tryz.prog Tryz.lays105_ren where
  sizeBuilder := by kernel_rfl
  liesBuilder := by kernel_rfl
  t5 := by kernel_rfl
  a5 := fun w => by kernel_rfl
  z5 := fun w => by kernel_rfl
  v5 := fun w => by kernel_rfl
  infoByte := by kernel_rfl
  cellsByte := by kernel_rfl
  sizeByte := by kernel_rfl
  neB5 := by decide

end Go.Proofs
set_option linter.unusedVariables false
set_option linter.unusedSimpArgs false
set_option maxRecDepth 100000
set_option maxHeartbeats 0
namespace Go.Proofs.YtmbdcehmeiiaoaaGreatDoor
open Go.Sy Go.RowKit
theorem srep_fun (u0 : List UInt8) (u1 : Int) (hpre : 0 ≤ u1 ∧ u1 ≤ 1000000 ∧ (u0.length : Int) * u1 ≤ 140737488355328) (Z : Fz) (w : World) (hZ : Z.on w) : Calls Tryz.prog 89 #[str u0, i6 u1] w fun e w' => e = .returned (str (srepS u0 u1)) ∧ Below w.heap.size w w' := by
  obtain ⟨m, rfl⟩ := Int.eq_ofNat_of_zero_le hpre.1
  have hl : u0.length * m ≤ 140737488355328 := by have := hpre.2.2; rw [← Int.natCast_mul] at this; omega
  have hm : m ≤ 1000000 := by have := hpre.2.1; omega
  have e : ∀ c : Nat, srepS u0 (c : Int) = Lib.repeatL u0 c := by
    intro c
    unfold srepS
    rw [Int.toNat_natCast]
    induction c with
    | zero => rfl
    | succ c ih => rw [List.replicate_succ, List.flatten_cons, ih]; rfl
  rw [e]
  exact Any.strings_Repeat Tryz.lays105 Tryz.lays105X ⟨⟨u0⟩⟩ m w (by omega) hl

theorem tz64_walk (u0 : Int)  (Z : Fz) (w : World) (hg5 : SlR t8 Z (sm 5) 64 deBruijn64) (hZ : Z.on w) {K : Int → Prop} (hp : tz64_vc u0 K) : Calls Tryz.prog 150 #[y6 u0] w fun e w' => ∃ r : Int, e = .returned (i6 r) ∧ K r ∧ Below w.heap.size w w' := by
 refine enter0 Tryz.func150 rfl rfl (by kernel_rfl) ?_; intro B f; have a := Mem.start w Z hZ; have C := Fz.le.refl Z
 refine sqB f a [] [] [] ?_; intro D g; clear f
 refine wp_seq ?_
 refine sqB g a [] [] [(4, .bool (u0 == 0))] ?_; intro E c; clear g
 refine cd c (t := u0 == 0) (by kernel_rfl) (fun d => ?_) (fun d => ?_)
 · -- yes
  have n := hp.1 d; clear hp
  refine sqB c a [] [] [(2, i6 64)] ?_; intro F o; clear c
  refine wp_ret ?_
  refine thr ?_
  refine ra1 o (i6 64) ?_
  exact ⟨64, rfl, n, a.below⟩
 · -- no
  have p := hp.2 d; clear hp
  refine wp_skip ?_
  refine thn ?_
  refine sqH ?_; intro q h
  refine bt c a 6 [] [] [(10, y6 (bShr .u64 (wu64 ((bAnd .u64 u0 (wu64 (0 - u0))) * 285870213051353865)) 58))] ?_; intro G i; clear c
  obtain ⟨s, j⟩ := p
  refine ixG i (T := t8) (xs := deBruijn64) hg5 (bShr .u64 (wu64 ((bAnd .u64 u0 (wu64 (0 - u0))) * 285870213051353865)) 58) 64 rfl s (e := 5) (k := .u64) (nog rfl _) rfl (by kernel_rfl) rfl (by kernel_rfl) (by kernel_rfl) (by kernel_rfl) ?_; intro H I u b J v x y l; clear i
  have z := j b v; clear j
  obtain rfl : u = ([y8 b] : List Value) := y
  refine z1 l a 12 x 0 (y8 b) rfl ?_; intro L m; clear l
  refine bt m a 2 [] [] [(2, i6 (w64 b))] ?_; intro M A; clear m
  refine nlH (h _ _ ?_); clear h q
  refine wp_ret ?_
  refine ra1 A (i6 (w64 b)) ?_
  exact ⟨w64 b, rfl, z, a.below⟩

theorem isp2_walk (u0 : Int)  (Z : Fz) (w : World)  (hZ : Z.on w) {K : Bool → Prop} (hp : isp2_vc u0 K) : Calls Tryz.prog 144 #[i6 u0] w fun e w' => ∃ r : Bool, e = .returned (.bool r) ∧ K r ∧ Below w.heap.size w w' := by
 refine enter0 Tryz.func144 rfl rfl (by kernel_rfl) ?_; intro f b; have a := Mem.start w Z hZ; have g := Fz.le.refl Z
 refine sqB b a [] [] [] ?_; intro h c; clear b
 refine sqB c a [] [] [(2, .bool ((bAnd .i64 u0 (w64 (u0 - 1))) == 0))] ?_; intro i d; clear c
 refine wp_ret ?_
 refine ra1 d (.bool ((bAnd .i64 u0 (w64 (u0 - 1))) == 0)) ?_
 exact ⟨(bAnd .i64 u0 (w64 (u0 - 1))) == 0, rfl, hp, a.below⟩
theorem isp2_fun (u0 : Int)  (Z : Fz) (w : World)  (hZ : Z.on w) : Calls Tryz.prog 144 #[i6 u0] w fun e w' => e = .returned (.bool (isp2 u0)) ∧ Below w.heap.size w w' :=
  (isp2_walk u0  Z w  hZ (isp2_ok u0)).mono fun _ _ ⟨r, he, hk, hb⟩ => ⟨by subst hk; exact he, hb⟩

end Go.Proofs.YtmbdcehmeiiaoaaGreatDoor
set_option linter.unusedVariables false
set_option linter.unusedSimpArgs false
set_option maxRecDepth 100000
set_option maxHeartbeats 0
namespace Go.Proofs.YtmbdcehmeiiaoaaGreatDoor
open Go.Sy Go.RowKit
theorem tz64_fun (u0 : Int) (hpre : u0 = 2)  (Z : Fz) (w : World) (hg5 : SlR t8 Z (sm 5) 64 deBruijn64) (hZ : Z.on w) : Calls Tryz.prog 150 #[y6 u0] w fun e w' => e = .returned (i6 (tz64S u0)) ∧ Below w.heap.size w w' :=
  (tz64_walk u0  Z w hg5 hZ (tz64_ok u0 hpre)).mono fun _ _ ⟨r, he, hk, hb⟩ => ⟨by subst hk; exact he, hb⟩

theorem tz_walk (u0 : Int)  (Z : Fz) (w : World) (hg5 : SlR t8 Z (sm 5) 64 deBruijn64) (hZ : Z.on w) {K : Int → Prop} (hp : tz_vc u0 K) : Calls Tryz.prog 145 #[y6 u0] w fun e w' => ∃ r : Int, e = .returned (i6 r) ∧ K r ∧ Below w.heap.size w w' := by
 refine enter0 Tryz.func145 rfl rfl (by kernel_rfl) ?_; intro m c; have a := Mem.start w Z hZ; have n := Fz.le.refl Z
 refine sqB c a [] [] [] ?_; intro o b; clear c
 refine wp_seq ?_
 refine cdF b (by kernel_rfl) ?_
 refine wp_skip ?_
 refine thn ?_
 refine sqH ?_; intro h d
 refine s1 b 6 (y6 u0) ?_; intro p f; clear b
 obtain ⟨i, j⟩ := hp
 refine fc f a (tz64_fun u0 i _ _ hg5 a.fz) ?_; intro q s g k; clear f a
 refine s1 g 2 (i6 (tz64S u0)) ?_; intro t l; clear g
 refine nlH (d _ _ ?_); clear d h
 refine wp_ret ?_
 refine ra1 l (i6 (tz64S u0)) ?_
 exact ⟨(tz64S u0), rfl, j, k.below⟩

theorem fbits_walk (u1 : Int) (u3 : Bool)  (Z : Fz) (w : World) (hg5 : SlR t8 Z (sm 5) 64 deBruijn64) (hZ : Z.on w) {K : ((List Int) × (List UInt8)) → Prop} (hp : fbits_vc u1 u3 K) : Calls Tryz.prog 131 #[.slice none 0 0, y6 u1, i6 2, .bool u3, .bool false] w fun e w' => ∃ (r : (List Int) × (List UInt8)) (ao1001 : Option Addr) (cap1002 : Nat) (Z' : Fz), e = .returned (.tuple #[.slice ao1001 r.1.length cap1002, str r.2]) ∧ K r ∧ Mem w.heap.size [] w Z [.own t8 5 ao1001 cap1002 r.1] Z' w' := by
 refine enter0 Tryz.func131 rfl rfl (by kernel_rfl) ?_; intro a0 aX; have Q := Mem.start w Z hZ; have y := Fz.le.refl Z
 refine sqB aX Q [] [] [(10, .slice none 0 0), (11, str [])] ?_; intro a4 aY; clear aX
 refine wp_seq ?_
 refine sqB aY Q [] [22, 23, 24, 26, 27, 28] [(28, .bool false)] ?_; intro f9 al; clear aY
 refine cdF al (by kernel_rfl) ?_
 refine wp_skip ?_
 refine thn ?_
 refine sqH ?_; intro dB aZ
 refine alA (T := t8) al Q 65 (y8 0) 0 174 (nog rfl _) rfl (by kernel_rfl) (by kernel_rfl) rfl (by decide) rfl ?_; intro c ga dC a1 a2; clear al Q
 have p : Mem w.heap.size [] w Z [.own t8 174 (sm c) 65 (List.replicate 65 (0 : Int))] Z dC := a2; clear a2
 refine nlH (aZ _ _ ?_); clear aZ dB
 refine sqB a1 p [] [] [(13, i6 65)] ?_; intro gb a3; clear a1
 refine wp_seq ?_
 refine sqB a3 p [] [] [(30, .bool u3)] ?_; intro gc G; clear a3
 refine cd G (t := u3) (by kernel_rfl) (fun z => ?_) (fun z => ?_)
 ·
  have R := hp.1 z; clear hp
  refine rgB G p [] [] [(1, y6 (wu64 (0 - u1)))] ?_; intro gd a5; clear G
  refine thn ?_
  refine wp_seq ?_
  refine sqH ?_; intro dD a6
  refine s1 a5 33 (i6 2) ?_; intro ge a7; clear a5
  refine fc a7 p (isp2_fun 2 _ _ p.fz) ?_; intro gf gg H A; clear a7 p
  refine nlH (a6 _ _ ?_); clear a6 dD
  refine cd H (t := (isp2 2)) (by kernel_rfl) (fun am => ?_) (fun am => ?_)
  ·
   have dE := R.1 am; clear R
   refine sqH ?_; intro dF a8
   refine bt H A 2 [] [] [(36, y6 2)] ?_; intro gh a9; clear H
   refine ck a9 145 #[y6 2] ?_
   refine (tz_walk 2 _ _ hg5 A.fz dE).mono ?_; rintro _ gi ⟨i, rfl, dG, hb⟩; refine ⟨_, rfl, ?_⟩; intro gj ba; have I := A.call hb; clear hb A a9
   refine bt ba I 2 [] [] [(14, y6 (wu64 i))] ?_; intro gk bb; clear ba
   refine nlH (a8 _ _ ?_); clear a8 dF
   refine sqB bb I [] [] [(15, y6 2)] ?_; intro gl bc; clear bb
   refine sqB bc I [] [] [(16, y6 (wu64 (2 - 1)))] ?_; intro bd be; clear bc
   refine wp_seq ?_
   refine wp_block ?_
   have bf : Fr 102 [] [⟨0, [], .slice none 0 0⟩, ⟨1, [], y6 (wu64 (0 - u1))⟩, ⟨3, [], .bool u3⟩, ⟨4, [], .bool false⟩, ⟨10, [], .slice none 0 0⟩, ⟨11, [], str []⟩, ⟨12, [], pt c 0⟩, ⟨13, [], i6 65⟩, ⟨14, [], y6 (wu64 i)⟩, ⟨15, [], y6 2⟩, ⟨16, [], y6 (wu64 (2 - 1))⟩] bd := be.reg; clear be
   have bg : Fr 102 [] [⟨0, [], .slice none 0 0⟩, ⟨1, [], y6 (wu64 (0 - u1))⟩, ⟨3, [], .bool u3⟩, ⟨4, [], .bool false⟩, ⟨10, [], .slice none 0 0⟩, ⟨11, [], str []⟩, ⟨12, [], pt c 0⟩, ⟨13, [], i6 65⟩, ⟨14, [], y6 (wu64 i)⟩, ⟨15, [], y6 2⟩, ⟨16, [], y6 (wu64 (2 - 1))⟩] bd := bf.reg; clear bf
   obtain ⟨dH, dI, dJ, dK⟩ := dG
   refine lp (ι := Int × Int × (List Int)) (fun s => [⟨0, [], .slice none 0 0⟩, ⟨1, [], y6 s.1⟩, ⟨3, [], .bool u3⟩, ⟨4, [], .bool false⟩, ⟨10, [], .slice none 0 0⟩, ⟨11, [], str []⟩, ⟨12, [], pt c 0⟩, ⟨13, [], i6 s.2.1⟩, ⟨14, [], y6 (wu64 i)⟩, ⟨15, [], y6 2⟩, ⟨16, [], y6 (wu64 (2 - 1))⟩]) (fun s => [.own t8 174 (sm c) 65 s.2.2]) (fun s => Z) (fun s => dH s.1 s.2.1 s.2.2) (fun s => dI s.1 s.2.1 s.2.2) ⟨wu64 (0 - u1), 65, (List.replicate 65 (0 : Int))⟩ dJ (by exact bg.reg) (by exact I) ?_
   rintro ⟨b, a, d⟩ dL dM dN bh bi
   have bj : Fr 102 [] [⟨0, [], .slice none 0 0⟩, ⟨1, [], y6 b⟩, ⟨3, [], .bool u3⟩, ⟨4, [], .bool false⟩, ⟨10, [], .slice none 0 0⟩, ⟨11, [], str []⟩, ⟨12, [], pt c 0⟩, ⟨13, [], i6 a⟩, ⟨14, [], y6 (wu64 i)⟩, ⟨15, [], y6 2⟩, ⟨16, [], y6 (wu64 (2 - 1))⟩] dM := bh; clear bh bg
   have v : Mem w.heap.size [] w Z [.own t8 174 (sm c) 65 d] Z dN := bi; clear bi I
   have S := dK b a d dL
   refine wp_seq ?_
   refine sqB bj v [] [] [(46, .bool (decide (b ≥ 2)))] ?_; intro gm J; clear bj
   refine cd J (t := decide (b ≥ 2)) (by kernel_rfl) (fun an => ?_) (fun an => ?_)
   ·
    have dO := S.1 an; clear S
    refine wp_skip ?_
    refine thn ?_
    refine wp_block ?_
    refine sqB J v [] [] [(13, i6 (w64 (a - 1)))] ?_; intro gn bk; clear J
    refine sqH ?_; intro dP bl
    refine bt bk v 4 [] [] [(49, i6 (w64 (a - 1))), (52, y6 (bAnd .u64 b (wu64 (2 - 1))))] ?_; intro go bm; clear bk
    obtain ⟨dQ, dR⟩ := dO
    obtain ⟨C, bn⟩ : ∃ q, ([48, 49, 50, 51, 52, 53, 54, 55, 56, 57, 97, 98, 99, 100, 101, 102, 103, 104, 105, 106, 107, 108, 109, 110, 111, 112, 113, 114, 115, 116, 117, 118, 119, 120, 121, 122] : List UInt8)[(bAnd .u64 b (wu64 (2 - 1))).toNat]? = some q := ⟨_, List.getElem?_eq_getElem (by omega)⟩; have dS := dR C bn
    refine si bm .u64 dQ.1 bn ?_; intro gp bo; clear bm
    obtain ⟨dT, dU⟩ := dS
    refine ixA (g := c) bo (w64 (a - 1)) 65 1 dT.1 (e := 5) (k := .i64) (nog rfl _) rfl (by kernel_rfl) rfl (by kernel_rfl) (by kernel_rfl) (by kernel_rfl) ?_; intro dV U; clear bo
    refine so U v 0 (T := t8) (xs := d) (w64 (a - 1)).toNat (C.toNat : Int) (u := y8 (C.toNat : Int)) (nog rfl _) rfl rfl (by kernel_rfl) rfl (by kernel_rfl) rfl (by kernel_rfl) (by first | omega | (simp only [List.length_set] at *; omega)) rfl ?_; intro dW bp; clear v
    have bq : Fr 102 [] [⟨0, [], .slice none 0 0⟩, ⟨1, [], y6 b⟩, ⟨3, [], .bool u3⟩, ⟨4, [], .bool false⟩, ⟨10, [], .slice none 0 0⟩, ⟨11, [], str []⟩, ⟨12, [], pt c 0⟩, ⟨13, [], i6 (w64 (a - 1))⟩, ⟨14, [], y6 (wu64 i)⟩, ⟨15, [], y6 2⟩, ⟨16, [], y6 (wu64 (2 - 1))⟩, ⟨46, [], .bool (decide (b ≥ 2))⟩, ⟨49, [], i6 (w64 (a - 1))⟩, ⟨52, [], y6 (bAnd .u64 b (wu64 (2 - 1)))⟩, ⟨53, [], y8 (C.toNat : Int)⟩, ⟨54, [], .pointer (some ⟨c, (w64 (a - 1)).toNat * 1, none⟩)⟩] dV := by (try simp only [List.length_set] at U); (try simp only [List.length_set]); exact U.reg
    clear U
    have br : Mem w.heap.size [] w Z [.own t8 174 (sm c) 65 (d.set (w64 (a - 1)).toNat (C.toNat : Int))] Z dW := bp; clear bp
    refine nlH (bl _ _ ?_); clear bl dP
    refine rgH ?_; intro dX bs
    refine bt bq br 2 [] [] [(55, y6 b), (56, y6 (wu64 i))] ?_; intro gq ap; clear bq
    obtain ⟨dY, bu⟩ := dU
    refine st ap (y6 (bShr .u64 b (wu64 i))) (nog rfl _) rfl (by kernel_rfl) (shr_run ap (g := []) (k' := .u64) rfl (by kernel_rfl) (by kernel_rfl) dY rfl) ?_; intro gr bv; clear ap
    refine s1 bv 1 (y6 (bShr .u64 b (wu64 i))) ?_; intro gs dZ; clear bv
    refine nlH (bs _ _ ?_); clear bs dX
    refine ibn ?_
    refine rd ?_
    exact ⟨⟨bShr .u64 b (wu64 i), w64 (a - 1), d.set (w64 (a - 1)).toNat (C.toNat : Int)⟩, bu.1, bu.2, (dZ.reg).anyβ _ (by kernel_rfl), br.keep (List.Sublist.cons_cons _ (List.Sublist.slnil))⟩
   have d0 := S.2 an; clear S
   refine wp_exit ?_
   refine thx ?_
   refine thx ?_
   refine ibx ?_
   refine thn ?_
   refine sqB J v [] [] [(13, i6 (w64 (a - 1)))] ?_; intro gt bw; clear J
   refine rgH ?_; intro d1 bx
   refine bt bw v 2 [] [] [(60, i6 (w64 (a - 1))), (61, y6 b)] ?_; intro gu bz; clear bw
   obtain ⟨d2, d3⟩ := d0
   obtain ⟨f, bA⟩ : ∃ q, ([48, 49, 50, 51, 52, 53, 54, 55, 56, 57, 97, 98, 99, 100, 101, 102, 103, 104, 105, 106, 107, 108, 109, 110, 111, 112, 113, 114, 115, 116, 117, 118, 119, 120, 121, 122] : List UInt8)[b.toNat]? = some q := ⟨_, List.getElem?_eq_getElem (by omega)⟩; have d4 := d3 f bA
   refine si bz .u64 d2.1 bA ?_; intro gv bB; clear bz
   obtain ⟨d5, d6⟩ := d4
   refine ixA (g := c) bB (w64 (a - 1)) 65 1 d5.1 (e := 5) (k := .i64) (nog rfl _) rfl (by kernel_rfl) rfl (by kernel_rfl) (by kernel_rfl) (by kernel_rfl) ?_; intro d7 V; clear bB
   refine so V v 0 (T := t8) (xs := d) (w64 (a - 1)).toNat (f.toNat : Int) (u := y8 (f.toNat : Int)) (nog rfl _) rfl rfl (by kernel_rfl) rfl (by kernel_rfl) rfl (by kernel_rfl) (by first | omega | (simp only [List.length_set] at *; omega)) rfl ?_; intro d8 bC; clear v
   have bD : Fr 102 [] [⟨0, [], .slice none 0 0⟩, ⟨1, [], y6 b⟩, ⟨3, [], .bool u3⟩, ⟨4, [], .bool false⟩, ⟨10, [], .slice none 0 0⟩, ⟨11, [], str []⟩, ⟨12, [], pt c 0⟩, ⟨13, [], i6 (w64 (a - 1))⟩, ⟨14, [], y6 (wu64 i)⟩, ⟨15, [], y6 2⟩, ⟨16, [], y6 (wu64 (2 - 1))⟩, ⟨46, [], .bool (decide (b ≥ 2))⟩, ⟨60, [], i6 (w64 (a - 1))⟩, ⟨61, [], y6 b⟩, ⟨62, [], y8 (f.toNat : Int)⟩, ⟨63, [], .pointer (some ⟨c, (w64 (a - 1)).toNat * 1, none⟩)⟩] d7 := by (try simp only [List.length_set] at V); (try simp only [List.length_set]); exact V.reg
   clear V
   have W : Mem w.heap.size [] w Z [.own t8 174 (sm c) 65 (d.set (w64 (a - 1)).toNat (f.toNat : Int))] Z d8 := bC; clear bC
   refine nlH (bx _ _ ?_); clear bx d1
   refine thn ?_
   refine wp_seq ?_
   refine sqB bD W [] [] [(89, .bool u3)] ?_; intro gw aq; clear bD
   refine cy aq z ?_
   refine sqB aq W [] [] [(13, i6 (w64 ((w64 (a - 1)) - 1)))] ?_; intro gx bE; clear aq
   refine rgH ?_; intro d9 bF
   refine s1 bE 92 (i6 (w64 ((w64 (a - 1)) - 1))) ?_; intro gy bG; clear bE
   obtain ⟨ea, eb⟩ := d6
   refine ixA (g := c) bG (w64 ((w64 (a - 1)) - 1)) 65 1 ea.1 (e := 5) (k := .i64) (nog rfl _) rfl (by kernel_rfl) rfl (by kernel_rfl) (by kernel_rfl) (by kernel_rfl) ?_; intro ec X; clear bG
   refine so X W 0 (T := t8) (xs := d.set (w64 (a - 1)).toNat (f.toNat : Int)) (w64 ((w64 (a - 1)) - 1)).toNat 45 (u := y8 45) (nog rfl _) rfl rfl (by kernel_rfl) rfl (by kernel_rfl) rfl (by kernel_rfl) (by first | omega | (simp only [List.length_set] at *; omega)) rfl ?_; intro ar bH; clear W
   have bI : Fr 102 [] [⟨0, [], .slice none 0 0⟩, ⟨1, [], y6 b⟩, ⟨3, [], .bool u3⟩, ⟨4, [], .bool false⟩, ⟨10, [], .slice none 0 0⟩, ⟨11, [], str []⟩, ⟨12, [], pt c 0⟩, ⟨13, [], i6 (w64 ((w64 (a - 1)) - 1))⟩, ⟨14, [], y6 (wu64 i)⟩, ⟨15, [], y6 2⟩, ⟨16, [], y6 (wu64 (2 - 1))⟩, ⟨46, [], .bool (decide (b ≥ 2))⟩, ⟨60, [], i6 (w64 (a - 1))⟩, ⟨61, [], y6 b⟩, ⟨62, [], y8 (f.toNat : Int)⟩, ⟨63, [], .pointer (some ⟨c, (w64 (a - 1)).toNat * 1, none⟩)⟩, ⟨89, [], .bool u3⟩, ⟨92, [], i6 (w64 ((w64 (a - 1)) - 1))⟩, ⟨93, [], .pointer (some ⟨c, (w64 ((w64 (a - 1)) - 1)).toNat * 1, none⟩)⟩] ec := by (try simp only [List.length_set] at X); (try simp only [List.length_set]); exact X.reg
   clear X
   have bJ : Mem w.heap.size [] w Z [.own t8 174 (sm c) 65 ((d.set (w64 (a - 1)).toNat (f.toNat : Int)).set (w64 ((w64 (a - 1)) - 1)).toNat 45)] Z ar := bH; clear bH
   refine nlH (bF _ _ ?_); clear bF d9
   refine thn ?_
   refine wp_seq ?_
   refine sqB bI bJ [] [] [(94, .bool false)] ?_; intro gz au; clear bI
   refine cdF au (by kernel_rfl) ?_
   refine wp_skip ?_
   refine thn ?_
   refine sqH ?_; intro ed bK
   refine s1 au 99 (i6 (w64 ((w64 (a - 1)) - 1))) ?_; intro gA bL; clear au
   obtain ⟨bM, ee⟩ := eb
   obtain ⟨av, bN, bO, ef⟩ := bJ.freeze 0 rfl
   replace hg5 := hg5.mono bN
   replace y := Fz.le.trans y bN
   have aw : Mem w.heap.size [] w Z [] av ar := bO; clear bO
   refine slA bL (T := t8) (xs := (d.set (w64 (a - 1)).toNat (f.toNat : Int)).set (w64 ((w64 (a - 1)) - 1)).toNat 45) ef 65 (w64 ((w64 (a - 1)) - 1)) bM.2 bM.1 (e := 5) (k := .i64) (nog rfl _) rfl (by kernel_rfl) rfl (by kernel_rfl) (by kernel_rfl) (by kernel_rfl) ?_; intro eg eh gB gC ei ax; clear bL
   refine st ax (str (bstr (((d.set (w64 (a - 1)).toNat (f.toNat : Int)).set (w64 ((w64 (a - 1)) - 1)).toNat 45).drop (w64 ((w64 (a - 1)) - 1)).toNat))) (nog rfl _) rfl (by kernel_rfl) (bstr_op ax (g := []) (e := 5) (ao := eg) (cap := eh) (xs := (((d.set (w64 (a - 1)).toNat (f.toNat : Int)).set (w64 ((w64 (a - 1)) - 1)).toNat 45).drop (w64 ((w64 (a - 1)) - 1)).toNat)) rfl (by kernel_rfl) (by kernel_rfl) (by kernel_rfl) (by kernel_rfl) ei aw.fz rfl) ?_; intro gD bP; clear ax
   refine s1 bP 11 (str (bstr (((d.set (w64 (a - 1)).toNat (f.toNat : Int)).set (w64 ((w64 (a - 1)) - 1)).toNat 45).drop (w64 ((w64 (a - 1)) - 1)).toNat))) ?_; intro gE ej; clear bP
   refine nlH (bK _ _ ?_); clear bK ed
   refine wp_ret ?_
   have ek : Mem w.heap.size [] w Z [.own t8 5 none 0 ([] : List Int)] av ar := aw.addNil t8 5 (by decide); clear aw
   refine ra2 ej (.tuple #[.slice none ([] : List Int).length 0, str (bstr (((d.set (w64 (a - 1)).toNat (f.toNat : Int)).set (w64 ((w64 (a - 1)) - 1)).toNat 45).drop (w64 ((w64 (a - 1)) - 1)).toNat))]) ?_
   exact ⟨(([] : List Int), bstr (((d.set (w64 (a - 1)).toNat (f.toNat : Int)).set (w64 ((w64 (a - 1)) - 1)).toNat 45).drop (w64 ((w64 (a - 1)) - 1)).toNat)), none, 0, av, rfl, ee, ek.keep (List.Sublist.cons_cons _ (List.Sublist.slnil))⟩
  have el := R.2 am; clear R
  refine sqB H A [] [] [(17, y6 2)] ?_; intro bQ bR; clear H
  refine wp_seq ?_
  refine wp_block ?_
  have bS : Fr 102 [] [⟨0, [], .slice none 0 0⟩, ⟨1, [], y6 (wu64 (0 - u1))⟩, ⟨3, [], .bool u3⟩, ⟨4, [], .bool false⟩, ⟨10, [], .slice none 0 0⟩, ⟨11, [], str []⟩, ⟨12, [], pt c 0⟩, ⟨13, [], i6 65⟩, ⟨17, [], y6 2⟩] bQ := bR.reg; clear bR
  have bT : Fr 102 [] [⟨0, [], .slice none 0 0⟩, ⟨1, [], y6 (wu64 (0 - u1))⟩, ⟨3, [], .bool u3⟩, ⟨4, [], .bool false⟩, ⟨10, [], .slice none 0 0⟩, ⟨11, [], str []⟩, ⟨12, [], pt c 0⟩, ⟨13, [], i6 65⟩, ⟨17, [], y6 2⟩] bQ := bS.reg; clear bS
  obtain ⟨em, en, eo, ep⟩ := el
  refine lp (ι := Int × Int × (List Int)) (fun s => [⟨0, [], .slice none 0 0⟩, ⟨1, [], y6 s.1⟩, ⟨3, [], .bool u3⟩, ⟨4, [], .bool false⟩, ⟨10, [], .slice none 0 0⟩, ⟨11, [], str []⟩, ⟨12, [], pt c 0⟩, ⟨13, [], i6 s.2.1⟩, ⟨17, [], y6 2⟩]) (fun s => [.own t8 174 (sm c) 65 s.2.2]) (fun s => Z) (fun s => em s.1 s.2.1 s.2.2) (fun s => en s.1 s.2.1 s.2.2) ⟨wu64 (0 - u1), 65, (List.replicate 65 (0 : Int))⟩ eo (by exact bT.reg) (by exact A) ?_
  rintro ⟨b, a, d⟩ eq er es bU bV
  have bW : Fr 102 [] [⟨0, [], .slice none 0 0⟩, ⟨1, [], y6 b⟩, ⟨3, [], .bool u3⟩, ⟨4, [], .bool false⟩, ⟨10, [], .slice none 0 0⟩, ⟨11, [], str []⟩, ⟨12, [], pt c 0⟩, ⟨13, [], i6 a⟩, ⟨17, [], y6 2⟩] er := bU; clear bU bT
  have n : Mem w.heap.size [] w Z [.own t8 174 (sm c) 65 d] Z es := bV; clear bV A
  have Y := ep b a d eq
  refine wp_seq ?_
  refine sqB bW n [] [] [(68, .bool (decide (b ≥ 2)))] ?_; intro gF L; clear bW
  refine cd L (t := decide (b ≥ 2)) (by kernel_rfl) (fun ay => ?_) (fun ay => ?_)
  ·
   have et := Y.1 ay; clear Y
   refine wp_skip ?_
   refine thn ?_
   refine wp_block ?_
   refine sqB L n [] [] [(13, i6 (w64 (a - 1)))] ?_; intro gG bX; clear L
   refine sqB bX n [] [] [(18, y6 (wu64 (b.tdiv 2)))] ?_; intro gH bY; clear bX
   refine sqH ?_; intro eu bZ
   refine bt bY n 6 [] [] [(74, i6 (w64 (a - 1))), (79, y6 (wu64 (b - (wu64 ((wu64 (b.tdiv 2)) * 2)))))] ?_; intro gI b0; clear bY
   obtain ⟨ev, ew⟩ := et
   obtain ⟨D, b1⟩ : ∃ q, ([48, 49, 50, 51, 52, 53, 54, 55, 56, 57, 97, 98, 99, 100, 101, 102, 103, 104, 105, 106, 107, 108, 109, 110, 111, 112, 113, 114, 115, 116, 117, 118, 119, 120, 121, 122] : List UInt8)[(wu64 (b - (wu64 ((wu64 (b.tdiv 2)) * 2)))).toNat]? = some q := ⟨_, List.getElem?_eq_getElem (by omega)⟩; have ex := ew D b1
   refine si b0 .u64 ev.1 b1 ?_; intro gJ b2; clear b0
   obtain ⟨ey, b3⟩ := ex
   refine ixA (g := c) b2 (w64 (a - 1)) 65 1 ey.1 (e := 5) (k := .i64) (nog rfl _) rfl (by kernel_rfl) rfl (by kernel_rfl) (by kernel_rfl) (by kernel_rfl) ?_; intro ez aa; clear b2
   refine so aa n 0 (T := t8) (xs := d) (w64 (a - 1)).toNat (D.toNat : Int) (u := y8 (D.toNat : Int)) (nog rfl _) rfl rfl (by kernel_rfl) rfl (by kernel_rfl) rfl (by kernel_rfl) (by first | omega | (simp only [List.length_set] at *; omega)) rfl ?_; intro eA b4; clear n
   have b5 : Fr 102 [] [⟨0, [], .slice none 0 0⟩, ⟨1, [], y6 b⟩, ⟨3, [], .bool u3⟩, ⟨4, [], .bool false⟩, ⟨10, [], .slice none 0 0⟩, ⟨11, [], str []⟩, ⟨12, [], pt c 0⟩, ⟨13, [], i6 (w64 (a - 1))⟩, ⟨17, [], y6 2⟩, ⟨18, [], y6 (wu64 (b.tdiv 2))⟩, ⟨68, [], .bool (decide (b ≥ 2))⟩, ⟨74, [], i6 (w64 (a - 1))⟩, ⟨79, [], y6 (wu64 (b - (wu64 ((wu64 (b.tdiv 2)) * 2))))⟩, ⟨80, [], y8 (D.toNat : Int)⟩, ⟨81, [], .pointer (some ⟨c, (w64 (a - 1)).toNat * 1, none⟩)⟩] ez := by (try simp only [List.length_set] at aa); (try simp only [List.length_set]); exact aa.reg
   clear aa
   have b6 : Mem w.heap.size [] w Z [.own t8 174 (sm c) 65 (d.set (w64 (a - 1)).toNat (D.toNat : Int))] Z eA := b4; clear b4
   refine nlH (bZ _ _ ?_); clear bZ eu
   refine rgB b5 b6 [] [] [(1, y6 (wu64 (b.tdiv 2)))] ?_; intro gK eB; clear b5
   refine ibn ?_
   refine rd ?_
   exact ⟨⟨wu64 (b.tdiv 2), w64 (a - 1), d.set (w64 (a - 1)).toNat (D.toNat : Int)⟩, b3.1, b3.2, (eB.reg).anyβ _ (by kernel_rfl), b6.keep (List.Sublist.cons_cons _ (List.Sublist.slnil))⟩
  have eC := Y.2 ay; clear Y
  refine wp_exit ?_
  refine thx ?_
  refine thx ?_
  refine ibx ?_
  refine thn ?_
  refine sqB L n [] [] [(13, i6 (w64 (a - 1)))] ?_; intro gL b7; clear L
  refine rgH ?_; intro eD b8
  refine bt b7 n 2 [] [] [(85, i6 (w64 (a - 1))), (86, y6 b)] ?_; intro gM b9; clear b7
  obtain ⟨eE, eF⟩ := eC
  obtain ⟨h, ca⟩ : ∃ q, ([48, 49, 50, 51, 52, 53, 54, 55, 56, 57, 97, 98, 99, 100, 101, 102, 103, 104, 105, 106, 107, 108, 109, 110, 111, 112, 113, 114, 115, 116, 117, 118, 119, 120, 121, 122] : List UInt8)[b.toNat]? = some q := ⟨_, List.getElem?_eq_getElem (by omega)⟩; have eG := eF h ca
  refine si b9 .u64 eE.1 ca ?_; intro gN cb; clear b9
  obtain ⟨eH, eI⟩ := eG
  refine ixA (g := c) cb (w64 (a - 1)) 65 1 eH.1 (e := 5) (k := .i64) (nog rfl _) rfl (by kernel_rfl) rfl (by kernel_rfl) (by kernel_rfl) (by kernel_rfl) ?_; intro eJ ab; clear cb
  refine so ab n 0 (T := t8) (xs := d) (w64 (a - 1)).toNat (h.toNat : Int) (u := y8 (h.toNat : Int)) (nog rfl _) rfl rfl (by kernel_rfl) rfl (by kernel_rfl) rfl (by kernel_rfl) (by first | omega | (simp only [List.length_set] at *; omega)) rfl ?_; intro eK cc; clear n
  have ce : Fr 102 [] [⟨0, [], .slice none 0 0⟩, ⟨1, [], y6 b⟩, ⟨3, [], .bool u3⟩, ⟨4, [], .bool false⟩, ⟨10, [], .slice none 0 0⟩, ⟨11, [], str []⟩, ⟨12, [], pt c 0⟩, ⟨13, [], i6 (w64 (a - 1))⟩, ⟨17, [], y6 2⟩, ⟨68, [], .bool (decide (b ≥ 2))⟩, ⟨85, [], i6 (w64 (a - 1))⟩, ⟨86, [], y6 b⟩, ⟨87, [], y8 (h.toNat : Int)⟩, ⟨88, [], .pointer (some ⟨c, (w64 (a - 1)).toNat * 1, none⟩)⟩] eJ := by (try simp only [List.length_set] at ab); (try simp only [List.length_set]); exact ab.reg
  clear ab
  have ac : Mem w.heap.size [] w Z [.own t8 174 (sm c) 65 (d.set (w64 (a - 1)).toNat (h.toNat : Int))] Z eK := cc; clear cc
  refine nlH (b8 _ _ ?_); clear b8 eD
  refine thn ?_
  refine wp_seq ?_
  refine sqB ce ac [] [] [(89, .bool u3)] ?_; intro gO az; clear ce
  refine cy az z ?_
  refine sqB az ac [] [] [(13, i6 (w64 ((w64 (a - 1)) - 1)))] ?_; intro gP cf; clear az
  refine rgH ?_; intro eL cg
  refine s1 cf 92 (i6 (w64 ((w64 (a - 1)) - 1))) ?_; intro gQ ch; clear cf
  obtain ⟨eM, eN⟩ := eI
  refine ixA (g := c) ch (w64 ((w64 (a - 1)) - 1)) 65 1 eM.1 (e := 5) (k := .i64) (nog rfl _) rfl (by kernel_rfl) rfl (by kernel_rfl) (by kernel_rfl) (by kernel_rfl) ?_; intro eO ad; clear ch
  refine so ad ac 0 (T := t8) (xs := d.set (w64 (a - 1)).toNat (h.toNat : Int)) (w64 ((w64 (a - 1)) - 1)).toNat 45 (u := y8 45) (nog rfl _) rfl rfl (by kernel_rfl) rfl (by kernel_rfl) rfl (by kernel_rfl) (by first | omega | (simp only [List.length_set] at *; omega)) rfl ?_; intro aA ci; clear ac
  have cj : Fr 102 [] [⟨0, [], .slice none 0 0⟩, ⟨1, [], y6 b⟩, ⟨3, [], .bool u3⟩, ⟨4, [], .bool false⟩, ⟨10, [], .slice none 0 0⟩, ⟨11, [], str []⟩, ⟨12, [], pt c 0⟩, ⟨13, [], i6 (w64 ((w64 (a - 1)) - 1))⟩, ⟨17, [], y6 2⟩, ⟨68, [], .bool (decide (b ≥ 2))⟩, ⟨85, [], i6 (w64 (a - 1))⟩, ⟨86, [], y6 b⟩, ⟨87, [], y8 (h.toNat : Int)⟩, ⟨88, [], .pointer (some ⟨c, (w64 (a - 1)).toNat * 1, none⟩)⟩, ⟨89, [], .bool u3⟩, ⟨92, [], i6 (w64 ((w64 (a - 1)) - 1))⟩, ⟨93, [], .pointer (some ⟨c, (w64 ((w64 (a - 1)) - 1)).toNat * 1, none⟩)⟩] eO := by (try simp only [List.length_set] at ad); (try simp only [List.length_set]); exact ad.reg
  clear ad
  have cl : Mem w.heap.size [] w Z [.own t8 174 (sm c) 65 ((d.set (w64 (a - 1)).toNat (h.toNat : Int)).set (w64 ((w64 (a - 1)) - 1)).toNat 45)] Z aA := ci; clear ci
  refine nlH (cg _ _ ?_); clear cg eL
  refine thn ?_
  refine wp_seq ?_
  refine sqB cj cl [] [] [(94, .bool false)] ?_; intro gR aB; clear cj
  refine cdF aB (by kernel_rfl) ?_
  refine wp_skip ?_
  refine thn ?_
  refine sqH ?_; intro eP cm
  refine s1 aB 99 (i6 (w64 ((w64 (a - 1)) - 1))) ?_; intro gS co; clear aB
  obtain ⟨cp, eQ⟩ := eN
  obtain ⟨aC, cq, cr, eR⟩ := cl.freeze 0 rfl
  replace hg5 := hg5.mono cq
  replace y := Fz.le.trans y cq
  have aD : Mem w.heap.size [] w Z [] aC aA := cr; clear cr
  refine slA co (T := t8) (xs := (d.set (w64 (a - 1)).toNat (h.toNat : Int)).set (w64 ((w64 (a - 1)) - 1)).toNat 45) eR 65 (w64 ((w64 (a - 1)) - 1)) cp.2 cp.1 (e := 5) (k := .i64) (nog rfl _) rfl (by kernel_rfl) rfl (by kernel_rfl) (by kernel_rfl) (by kernel_rfl) ?_; intro eS eT gT gU eU aE; clear co
  refine st aE (str (bstr (((d.set (w64 (a - 1)).toNat (h.toNat : Int)).set (w64 ((w64 (a - 1)) - 1)).toNat 45).drop (w64 ((w64 (a - 1)) - 1)).toNat))) (nog rfl _) rfl (by kernel_rfl) (bstr_op aE (g := []) (e := 5) (ao := eS) (cap := eT) (xs := (((d.set (w64 (a - 1)).toNat (h.toNat : Int)).set (w64 ((w64 (a - 1)) - 1)).toNat 45).drop (w64 ((w64 (a - 1)) - 1)).toNat)) rfl (by kernel_rfl) (by kernel_rfl) (by kernel_rfl) (by kernel_rfl) eU aD.fz rfl) ?_; intro gV cs; clear aE
  refine s1 cs 11 (str (bstr (((d.set (w64 (a - 1)).toNat (h.toNat : Int)).set (w64 ((w64 (a - 1)) - 1)).toNat 45).drop (w64 ((w64 (a - 1)) - 1)).toNat))) ?_; intro gW eV; clear cs
  refine nlH (cm _ _ ?_); clear cm eP
  refine wp_ret ?_
  have eW : Mem w.heap.size [] w Z [.own t8 5 none 0 ([] : List Int)] aC aA := aD.addNil t8 5 (by decide); clear aD
  refine ra2 eV (.tuple #[.slice none ([] : List Int).length 0, str (bstr (((d.set (w64 (a - 1)).toNat (h.toNat : Int)).set (w64 ((w64 (a - 1)) - 1)).toNat 45).drop (w64 ((w64 (a - 1)) - 1)).toNat))]) ?_
  exact ⟨(([] : List Int), bstr (((d.set (w64 (a - 1)).toNat (h.toNat : Int)).set (w64 ((w64 (a - 1)) - 1)).toNat 45).drop (w64 ((w64 (a - 1)) - 1)).toNat)), none, 0, aC, rfl, eQ, eW.keep (List.Sublist.cons_cons _ (List.Sublist.slnil))⟩
 have ae := hp.2 z; clear hp
 refine wp_skip ?_
 refine thn ?_
 refine wp_seq ?_
 refine sqH ?_; intro eX ct
 refine s1 G 33 (i6 2) ?_; intro gX cu; clear G
 refine fc cu p (isp2_fun 2 _ _ p.fz) ?_; intro gY gZ M B; clear cu p
 refine nlH (ct _ _ ?_); clear ct eX
 refine cd M (t := (isp2 2)) (by kernel_rfl) (fun aF => ?_) (fun aF => ?_)
 ·
  have eY := ae.1 aF; clear ae
  refine sqH ?_; intro eZ cv
  refine bt M B 2 [] [] [(36, y6 2)] ?_; intro g0 cw; clear M
  refine ck cw 145 #[y6 2] ?_
  refine (tz_walk 2 _ _ hg5 B.fz eY).mono ?_; rintro _ g1 ⟨j, rfl, e0, hb⟩; refine ⟨_, rfl, ?_⟩; intro g2 cx; have N := B.call hb; clear hb B cw
  refine bt cx N 2 [] [] [(14, y6 (wu64 j))] ?_; intro g3 cz; clear cx
  refine nlH (cv _ _ ?_); clear cv eZ
  refine sqB cz N [] [] [(15, y6 2)] ?_; intro g4 cA; clear cz
  refine sqB cA N [] [] [(16, y6 (wu64 (2 - 1)))] ?_; intro cB cC; clear cA
  refine wp_seq ?_
  refine wp_block ?_
  have cD : Fr 102 [] [⟨0, [], .slice none 0 0⟩, ⟨1, [], y6 u1⟩, ⟨3, [], .bool u3⟩, ⟨4, [], .bool false⟩, ⟨10, [], .slice none 0 0⟩, ⟨11, [], str []⟩, ⟨12, [], pt c 0⟩, ⟨13, [], i6 65⟩, ⟨14, [], y6 (wu64 j)⟩, ⟨15, [], y6 2⟩, ⟨16, [], y6 (wu64 (2 - 1))⟩] cB := cC.reg; clear cC
  have cE : Fr 102 [] [⟨0, [], .slice none 0 0⟩, ⟨1, [], y6 u1⟩, ⟨3, [], .bool u3⟩, ⟨4, [], .bool false⟩, ⟨10, [], .slice none 0 0⟩, ⟨11, [], str []⟩, ⟨12, [], pt c 0⟩, ⟨13, [], i6 65⟩, ⟨14, [], y6 (wu64 j)⟩, ⟨15, [], y6 2⟩, ⟨16, [], y6 (wu64 (2 - 1))⟩] cB := cD.reg; clear cD
  obtain ⟨e1, e2, e3, e4⟩ := e0
  refine lp (ι := Int × Int × (List Int)) (fun s => [⟨0, [], .slice none 0 0⟩, ⟨1, [], y6 s.1⟩, ⟨3, [], .bool u3⟩, ⟨4, [], .bool false⟩, ⟨10, [], .slice none 0 0⟩, ⟨11, [], str []⟩, ⟨12, [], pt c 0⟩, ⟨13, [], i6 s.2.1⟩, ⟨14, [], y6 (wu64 j)⟩, ⟨15, [], y6 2⟩, ⟨16, [], y6 (wu64 (2 - 1))⟩]) (fun s => [.own t8 174 (sm c) 65 s.2.2]) (fun s => Z) (fun s => e1 s.1 s.2.1 s.2.2) (fun s => e2 s.1 s.2.1 s.2.2) ⟨u1, 65, (List.replicate 65 (0 : Int))⟩ e3 (by exact cE.reg) (by exact N) ?_
  rintro ⟨b, a, d⟩ e5 e6 e7 cF cG
  have cH : Fr 102 [] [⟨0, [], .slice none 0 0⟩, ⟨1, [], y6 b⟩, ⟨3, [], .bool u3⟩, ⟨4, [], .bool false⟩, ⟨10, [], .slice none 0 0⟩, ⟨11, [], str []⟩, ⟨12, [], pt c 0⟩, ⟨13, [], i6 a⟩, ⟨14, [], y6 (wu64 j)⟩, ⟨15, [], y6 2⟩, ⟨16, [], y6 (wu64 (2 - 1))⟩] e6 := cF; clear cF cE
  have x : Mem w.heap.size [] w Z [.own t8 174 (sm c) 65 d] Z e7 := cG; clear cG N
  have af := e4 b a d e5
  refine wp_seq ?_
  refine sqB cH x [] [] [(46, .bool (decide (b ≥ 2)))] ?_; intro g5 O; clear cH
  refine cd O (t := decide (b ≥ 2)) (by kernel_rfl) (fun aG => ?_) (fun aG => ?_)
  ·
   have e8 := af.1 aG; clear af
   refine wp_skip ?_
   refine thn ?_
   refine wp_block ?_
   refine sqB O x [] [] [(13, i6 (w64 (a - 1)))] ?_; intro g6 cI; clear O
   refine sqH ?_; intro e9 cJ
   refine bt cI x 4 [] [] [(49, i6 (w64 (a - 1))), (52, y6 (bAnd .u64 b (wu64 (2 - 1))))] ?_; intro g7 cK; clear cI
   obtain ⟨fa, fb⟩ := e8
   obtain ⟨E, cL⟩ : ∃ q, ([48, 49, 50, 51, 52, 53, 54, 55, 56, 57, 97, 98, 99, 100, 101, 102, 103, 104, 105, 106, 107, 108, 109, 110, 111, 112, 113, 114, 115, 116, 117, 118, 119, 120, 121, 122] : List UInt8)[(bAnd .u64 b (wu64 (2 - 1))).toNat]? = some q := ⟨_, List.getElem?_eq_getElem (by omega)⟩; have fd := fb E cL
   refine si cK .u64 fa.1 cL ?_; intro g8 cM; clear cK
   obtain ⟨fe, ff⟩ := fd
   refine ixA (g := c) cM (w64 (a - 1)) 65 1 fe.1 (e := 5) (k := .i64) (nog rfl _) rfl (by kernel_rfl) rfl (by kernel_rfl) (by kernel_rfl) (by kernel_rfl) ?_; intro fg ag; clear cM
   refine so ag x 0 (T := t8) (xs := d) (w64 (a - 1)).toNat (E.toNat : Int) (u := y8 (E.toNat : Int)) (nog rfl _) rfl rfl (by kernel_rfl) rfl (by kernel_rfl) rfl (by kernel_rfl) (by first | omega | (simp only [List.length_set] at *; omega)) rfl ?_; intro fh cN; clear x
   have cO : Fr 102 [] [⟨0, [], .slice none 0 0⟩, ⟨1, [], y6 b⟩, ⟨3, [], .bool u3⟩, ⟨4, [], .bool false⟩, ⟨10, [], .slice none 0 0⟩, ⟨11, [], str []⟩, ⟨12, [], pt c 0⟩, ⟨13, [], i6 (w64 (a - 1))⟩, ⟨14, [], y6 (wu64 j)⟩, ⟨15, [], y6 2⟩, ⟨16, [], y6 (wu64 (2 - 1))⟩, ⟨46, [], .bool (decide (b ≥ 2))⟩, ⟨49, [], i6 (w64 (a - 1))⟩, ⟨52, [], y6 (bAnd .u64 b (wu64 (2 - 1)))⟩, ⟨53, [], y8 (E.toNat : Int)⟩, ⟨54, [], .pointer (some ⟨c, (w64 (a - 1)).toNat * 1, none⟩)⟩] fg := by (try simp only [List.length_set] at ag); (try simp only [List.length_set]); exact ag.reg
   clear ag
   have cP : Mem w.heap.size [] w Z [.own t8 174 (sm c) 65 (d.set (w64 (a - 1)).toNat (E.toNat : Int))] Z fh := cN; clear cN
   refine nlH (cJ _ _ ?_); clear cJ e9
   refine rgH ?_; intro fi cQ
   refine bt cO cP 2 [] [] [(55, y6 b), (56, y6 (wu64 j))] ?_; intro g9 aH; clear cO
   obtain ⟨fj, cR⟩ := ff
   refine st aH (y6 (bShr .u64 b (wu64 j))) (nog rfl _) rfl (by kernel_rfl) (shr_run aH (g := []) (k' := .u64) rfl (by kernel_rfl) (by kernel_rfl) fj rfl) ?_; intro ha cS; clear aH
   refine s1 cS 1 (y6 (bShr .u64 b (wu64 j))) ?_; intro hc fk; clear cS
   refine nlH (cQ _ _ ?_); clear cQ fi
   refine ibn ?_
   refine rd ?_
   exact ⟨⟨bShr .u64 b (wu64 j), w64 (a - 1), d.set (w64 (a - 1)).toNat (E.toNat : Int)⟩, cR.1, cR.2, (fk.reg).anyβ _ (by kernel_rfl), cP.keep (List.Sublist.cons_cons _ (List.Sublist.slnil))⟩
  have fl := af.2 aG; clear af
  refine wp_exit ?_
  refine thx ?_
  refine thx ?_
  refine ibx ?_
  refine thn ?_
  refine sqB O x [] [] [(13, i6 (w64 (a - 1)))] ?_; intro hd cT; clear O
  refine rgH ?_; intro fm cU
  refine bt cT x 2 [] [] [(60, i6 (w64 (a - 1))), (61, y6 b)] ?_; intro he cV; clear cT
  obtain ⟨fn, fo⟩ := fl
  obtain ⟨l, cW⟩ : ∃ q, ([48, 49, 50, 51, 52, 53, 54, 55, 56, 57, 97, 98, 99, 100, 101, 102, 103, 104, 105, 106, 107, 108, 109, 110, 111, 112, 113, 114, 115, 116, 117, 118, 119, 120, 121, 122] : List UInt8)[b.toNat]? = some q := ⟨_, List.getElem?_eq_getElem (by omega)⟩; have fp := fo l cW
  refine si cV .u64 fn.1 cW ?_; intro hf cX; clear cV
  obtain ⟨fq, fr⟩ := fp
  refine ixA (g := c) cX (w64 (a - 1)) 65 1 fq.1 (e := 5) (k := .i64) (nog rfl _) rfl (by kernel_rfl) rfl (by kernel_rfl) (by kernel_rfl) (by kernel_rfl) ?_; intro fs ah; clear cX
  refine so ah x 0 (T := t8) (xs := d) (w64 (a - 1)).toNat (l.toNat : Int) (u := y8 (l.toNat : Int)) (nog rfl _) rfl rfl (by kernel_rfl) rfl (by kernel_rfl) rfl (by kernel_rfl) (by first | omega | (simp only [List.length_set] at *; omega)) rfl ?_; intro aI cY; clear x
  have cZ : Fr 102 [] [⟨0, [], .slice none 0 0⟩, ⟨1, [], y6 b⟩, ⟨3, [], .bool u3⟩, ⟨4, [], .bool false⟩, ⟨10, [], .slice none 0 0⟩, ⟨11, [], str []⟩, ⟨12, [], pt c 0⟩, ⟨13, [], i6 (w64 (a - 1))⟩, ⟨14, [], y6 (wu64 j)⟩, ⟨15, [], y6 2⟩, ⟨16, [], y6 (wu64 (2 - 1))⟩, ⟨46, [], .bool (decide (b ≥ 2))⟩, ⟨60, [], i6 (w64 (a - 1))⟩, ⟨61, [], y6 b⟩, ⟨62, [], y8 (l.toNat : Int)⟩, ⟨63, [], .pointer (some ⟨c, (w64 (a - 1)).toNat * 1, none⟩)⟩] fs := by (try simp only [List.length_set] at ah); (try simp only [List.length_set]); exact ah.reg
  clear ah
  have aJ : Mem w.heap.size [] w Z [.own t8 174 (sm c) 65 (d.set (w64 (a - 1)).toNat (l.toNat : Int))] Z aI := cY; clear cY
  refine nlH (cU _ _ ?_); clear cU fm
  refine thn ?_
  refine wp_seq ?_
  refine sqB cZ aJ [] [] [(89, .bool u3)] ?_; intro hg aK; clear cZ
  refine cn aK z ?_
  refine wp_skip ?_
  refine thn ?_
  refine wp_seq ?_
  refine sqB aK aJ [] [] [(94, .bool false)] ?_; intro hh aL; clear aK
  refine cdF aL (by kernel_rfl) ?_
  refine wp_skip ?_
  refine thn ?_
  refine sqH ?_; intro ft c0
  refine s1 aL 99 (i6 (w64 (a - 1))) ?_; intro hi c1; clear aL
  obtain ⟨c2, fu⟩ := fr
  obtain ⟨aM, c3, c4, fv⟩ := aJ.freeze 0 rfl
  replace hg5 := hg5.mono c3
  replace y := Fz.le.trans y c3
  have aN : Mem w.heap.size [] w Z [] aM aI := c4; clear c4
  refine slA c1 (T := t8) (xs := d.set (w64 (a - 1)).toNat (l.toNat : Int)) fv 65 (w64 (a - 1)) c2.2 c2.1 (e := 5) (k := .i64) (nog rfl _) rfl (by kernel_rfl) rfl (by kernel_rfl) (by kernel_rfl) (by kernel_rfl) ?_; intro fw fx hj hk fy aO; clear c1
  refine st aO (str (bstr ((d.set (w64 (a - 1)).toNat (l.toNat : Int)).drop (w64 (a - 1)).toNat))) (nog rfl _) rfl (by kernel_rfl) (bstr_op aO (g := []) (e := 5) (ao := fw) (cap := fx) (xs := ((d.set (w64 (a - 1)).toNat (l.toNat : Int)).drop (w64 (a - 1)).toNat)) rfl (by kernel_rfl) (by kernel_rfl) (by kernel_rfl) (by kernel_rfl) fy aN.fz rfl) ?_; intro hl c5; clear aO
  refine s1 c5 11 (str (bstr ((d.set (w64 (a - 1)).toNat (l.toNat : Int)).drop (w64 (a - 1)).toNat))) ?_; intro hm fA; clear c5
  refine nlH (c0 _ _ ?_); clear c0 ft
  refine wp_ret ?_
  have fB : Mem w.heap.size [] w Z [.own t8 5 none 0 ([] : List Int)] aM aI := aN.addNil t8 5 (by decide); clear aN
  refine ra2 fA (.tuple #[.slice none ([] : List Int).length 0, str (bstr ((d.set (w64 (a - 1)).toNat (l.toNat : Int)).drop (w64 (a - 1)).toNat))]) ?_
  exact ⟨(([] : List Int), bstr ((d.set (w64 (a - 1)).toNat (l.toNat : Int)).drop (w64 (a - 1)).toNat)), none, 0, aM, rfl, fu, fB.keep (List.Sublist.cons_cons _ (List.Sublist.slnil))⟩
 have fC := ae.2 aF; clear ae
 refine sqB M B [] [] [(17, y6 2)] ?_; intro c6 c7; clear M
 refine wp_seq ?_
 refine wp_block ?_
 have c8 : Fr 102 [] [⟨0, [], .slice none 0 0⟩, ⟨1, [], y6 u1⟩, ⟨3, [], .bool u3⟩, ⟨4, [], .bool false⟩, ⟨10, [], .slice none 0 0⟩, ⟨11, [], str []⟩, ⟨12, [], pt c 0⟩, ⟨13, [], i6 65⟩, ⟨17, [], y6 2⟩] c6 := c7.reg; clear c7
 have c9 : Fr 102 [] [⟨0, [], .slice none 0 0⟩, ⟨1, [], y6 u1⟩, ⟨3, [], .bool u3⟩, ⟨4, [], .bool false⟩, ⟨10, [], .slice none 0 0⟩, ⟨11, [], str []⟩, ⟨12, [], pt c 0⟩, ⟨13, [], i6 65⟩, ⟨17, [], y6 2⟩] c6 := c8.reg; clear c8
 obtain ⟨fD, fE, fF, fG⟩ := fC
 refine lp (ι := Int × Int × (List Int)) (fun s => [⟨0, [], .slice none 0 0⟩, ⟨1, [], y6 s.1⟩, ⟨3, [], .bool u3⟩, ⟨4, [], .bool false⟩, ⟨10, [], .slice none 0 0⟩, ⟨11, [], str []⟩, ⟨12, [], pt c 0⟩, ⟨13, [], i6 s.2.1⟩, ⟨17, [], y6 2⟩]) (fun s => [.own t8 174 (sm c) 65 s.2.2]) (fun s => Z) (fun s => fD s.1 s.2.1 s.2.2) (fun s => fE s.1 s.2.1 s.2.2) ⟨u1, 65, (List.replicate 65 (0 : Int))⟩ fF (by exact c9.reg) (by exact B) ?_
 rintro ⟨b, a, d⟩ fH fI fJ da db
 have dc : Fr 102 [] [⟨0, [], .slice none 0 0⟩, ⟨1, [], y6 b⟩, ⟨3, [], .bool u3⟩, ⟨4, [], .bool false⟩, ⟨10, [], .slice none 0 0⟩, ⟨11, [], str []⟩, ⟨12, [], pt c 0⟩, ⟨13, [], i6 a⟩, ⟨17, [], y6 2⟩] fI := da; clear da c9
 have o : Mem w.heap.size [] w Z [.own t8 174 (sm c) 65 d] Z fJ := db; clear db B
 have ai := fG b a d fH
 refine wp_seq ?_
 refine sqB dc o [] [] [(68, .bool (decide (b ≥ 2)))] ?_; intro hn P; clear dc
 refine cd P (t := decide (b ≥ 2)) (by kernel_rfl) (fun aP => ?_) (fun aP => ?_)
 ·
  have fK := ai.1 aP; clear ai
  refine wp_skip ?_
  refine thn ?_
  refine wp_block ?_
  refine sqB P o [] [] [(13, i6 (w64 (a - 1)))] ?_; intro ho dd; clear P
  refine sqB dd o [] [] [(18, y6 (wu64 (b.tdiv 2)))] ?_; intro hq de; clear dd
  refine sqH ?_; intro fL df
  refine bt de o 6 [] [] [(74, i6 (w64 (a - 1))), (79, y6 (wu64 (b - (wu64 ((wu64 (b.tdiv 2)) * 2)))))] ?_; intro hr dg; clear de
  obtain ⟨fM, fN⟩ := fK
  obtain ⟨F, dh⟩ : ∃ q, ([48, 49, 50, 51, 52, 53, 54, 55, 56, 57, 97, 98, 99, 100, 101, 102, 103, 104, 105, 106, 107, 108, 109, 110, 111, 112, 113, 114, 115, 116, 117, 118, 119, 120, 121, 122] : List UInt8)[(wu64 (b - (wu64 ((wu64 (b.tdiv 2)) * 2)))).toNat]? = some q := ⟨_, List.getElem?_eq_getElem (by omega)⟩; have fO := fN F dh
  refine si dg .u64 fM.1 dh ?_; intro hs di; clear dg
  obtain ⟨fP, dj⟩ := fO
  refine ixA (g := c) di (w64 (a - 1)) 65 1 fP.1 (e := 5) (k := .i64) (nog rfl _) rfl (by kernel_rfl) rfl (by kernel_rfl) (by kernel_rfl) (by kernel_rfl) ?_; intro fQ aj; clear di
  refine so aj o 0 (T := t8) (xs := d) (w64 (a - 1)).toNat (F.toNat : Int) (u := y8 (F.toNat : Int)) (nog rfl _) rfl rfl (by kernel_rfl) rfl (by kernel_rfl) rfl (by kernel_rfl) (by first | omega | (simp only [List.length_set] at *; omega)) rfl ?_; intro fR dk; clear o
  have dl : Fr 102 [] [⟨0, [], .slice none 0 0⟩, ⟨1, [], y6 b⟩, ⟨3, [], .bool u3⟩, ⟨4, [], .bool false⟩, ⟨10, [], .slice none 0 0⟩, ⟨11, [], str []⟩, ⟨12, [], pt c 0⟩, ⟨13, [], i6 (w64 (a - 1))⟩, ⟨17, [], y6 2⟩, ⟨18, [], y6 (wu64 (b.tdiv 2))⟩, ⟨68, [], .bool (decide (b ≥ 2))⟩, ⟨74, [], i6 (w64 (a - 1))⟩, ⟨79, [], y6 (wu64 (b - (wu64 ((wu64 (b.tdiv 2)) * 2))))⟩, ⟨80, [], y8 (F.toNat : Int)⟩, ⟨81, [], .pointer (some ⟨c, (w64 (a - 1)).toNat * 1, none⟩)⟩] fQ := by (try simp only [List.length_set] at aj); (try simp only [List.length_set]); exact aj.reg
  clear aj
  have dm : Mem w.heap.size [] w Z [.own t8 174 (sm c) 65 (d.set (w64 (a - 1)).toNat (F.toNat : Int))] Z fR := dk; clear dk
  refine nlH (df _ _ ?_); clear df fL
  refine rgB dl dm [] [] [(1, y6 (wu64 (b.tdiv 2)))] ?_; intro ht fS; clear dl
  refine ibn ?_
  refine rd ?_
  exact ⟨⟨wu64 (b.tdiv 2), w64 (a - 1), d.set (w64 (a - 1)).toNat (F.toNat : Int)⟩, dj.1, dj.2, (fS.reg).anyβ _ (by kernel_rfl), dm.keep (List.Sublist.cons_cons _ (List.Sublist.slnil))⟩
 have fT := ai.2 aP; clear ai
 refine wp_exit ?_
 refine thx ?_
 refine thx ?_
 refine ibx ?_
 refine thn ?_
 refine sqB P o [] [] [(13, i6 (w64 (a - 1)))] ?_; intro hu dn; clear P
 refine rgH ?_; intro fU dp
 refine bt dn o 2 [] [] [(85, i6 (w64 (a - 1))), (86, y6 b)] ?_; intro hv dq; clear dn
 obtain ⟨fV, fW⟩ := fT
 obtain ⟨m, dr⟩ : ∃ q, ([48, 49, 50, 51, 52, 53, 54, 55, 56, 57, 97, 98, 99, 100, 101, 102, 103, 104, 105, 106, 107, 108, 109, 110, 111, 112, 113, 114, 115, 116, 117, 118, 119, 120, 121, 122] : List UInt8)[b.toNat]? = some q := ⟨_, List.getElem?_eq_getElem (by omega)⟩; have fX := fW m dr
 refine si dq .u64 fV.1 dr ?_; intro hw ds; clear dq
 obtain ⟨fY, fZ⟩ := fX
 refine ixA (g := c) ds (w64 (a - 1)) 65 1 fY.1 (e := 5) (k := .i64) (nog rfl _) rfl (by kernel_rfl) rfl (by kernel_rfl) (by kernel_rfl) (by kernel_rfl) ?_; intro f0 ak; clear ds
 refine so ak o 0 (T := t8) (xs := d) (w64 (a - 1)).toNat (m.toNat : Int) (u := y8 (m.toNat : Int)) (nog rfl _) rfl rfl (by kernel_rfl) rfl (by kernel_rfl) rfl (by kernel_rfl) (by first | omega | (simp only [List.length_set] at *; omega)) rfl ?_; intro aQ dt; clear o
 have du : Fr 102 [] [⟨0, [], .slice none 0 0⟩, ⟨1, [], y6 b⟩, ⟨3, [], .bool u3⟩, ⟨4, [], .bool false⟩, ⟨10, [], .slice none 0 0⟩, ⟨11, [], str []⟩, ⟨12, [], pt c 0⟩, ⟨13, [], i6 (w64 (a - 1))⟩, ⟨17, [], y6 2⟩, ⟨68, [], .bool (decide (b ≥ 2))⟩, ⟨85, [], i6 (w64 (a - 1))⟩, ⟨86, [], y6 b⟩, ⟨87, [], y8 (m.toNat : Int)⟩, ⟨88, [], .pointer (some ⟨c, (w64 (a - 1)).toNat * 1, none⟩)⟩] f0 := by (try simp only [List.length_set] at ak); (try simp only [List.length_set]); exact ak.reg
 clear ak
 have aR : Mem w.heap.size [] w Z [.own t8 174 (sm c) 65 (d.set (w64 (a - 1)).toNat (m.toNat : Int))] Z aQ := dt; clear dt
 refine nlH (dp _ _ ?_); clear dp fU
 refine thn ?_
 refine wp_seq ?_
 refine sqB du aR [] [] [(89, .bool u3)] ?_; intro hx aS; clear du
 refine cn aS z ?_
 refine wp_skip ?_
 refine thn ?_
 refine wp_seq ?_
 refine sqB aS aR [] [] [(94, .bool false)] ?_; intro hy aT; clear aS
 refine cdF aT (by kernel_rfl) ?_
 refine wp_skip ?_
 refine thn ?_
 refine sqH ?_; intro f1 dv
 refine s1 aT 99 (i6 (w64 (a - 1))) ?_; intro hz dw; clear aT
 obtain ⟨dx, f2⟩ := fZ
 obtain ⟨aU, dy, dz, f3⟩ := aR.freeze 0 rfl
 replace hg5 := hg5.mono dy
 replace y := Fz.le.trans y dy
 have aV : Mem w.heap.size [] w Z [] aU aQ := dz; clear dz
 refine slA dw (T := t8) (xs := d.set (w64 (a - 1)).toNat (m.toNat : Int)) f3 65 (w64 (a - 1)) dx.2 dx.1 (e := 5) (k := .i64) (nog rfl _) rfl (by kernel_rfl) rfl (by kernel_rfl) (by kernel_rfl) (by kernel_rfl) ?_; intro f4 f5 hA hB f6 aW; clear dw
 refine st aW (str (bstr ((d.set (w64 (a - 1)).toNat (m.toNat : Int)).drop (w64 (a - 1)).toNat))) (nog rfl _) rfl (by kernel_rfl) (bstr_op aW (g := []) (e := 5) (ao := f4) (cap := f5) (xs := ((d.set (w64 (a - 1)).toNat (m.toNat : Int)).drop (w64 (a - 1)).toNat)) rfl (by kernel_rfl) (by kernel_rfl) (by kernel_rfl) (by kernel_rfl) f6 aV.fz rfl) ?_; intro hC dA; clear aW
 refine s1 dA 11 (str (bstr ((d.set (w64 (a - 1)).toNat (m.toNat : Int)).drop (w64 (a - 1)).toNat))) ?_; intro hD f7; clear dA
 refine nlH (dv _ _ ?_); clear dv f1
 refine wp_ret ?_
 have f8 : Mem w.heap.size [] w Z [.own t8 5 none 0 ([] : List Int)] aU aQ := aV.addNil t8 5 (by decide); clear aV
 refine ra2 f7 (.tuple #[.slice none ([] : List Int).length 0, str (bstr ((d.set (w64 (a - 1)).toNat (m.toNat : Int)).drop (w64 (a - 1)).toNat))]) ?_
 exact ⟨(([] : List Int), bstr ((d.set (w64 (a - 1)).toNat (m.toNat : Int)).drop (w64 (a - 1)).toNat)), none, 0, aU, rfl, f2, f8.keep (List.Sublist.cons_cons _ (List.Sublist.slnil))⟩

end Go.Proofs.YtmbdcehmeiiaoaaGreatDoor
set_option linter.unusedVariables false
set_option linter.unusedSimpArgs false
set_option maxRecDepth 100000
set_option maxHeartbeats 0
namespace Go.Proofs.YtmbdcehmeiiaoaaGreatDoor
open Go.Sy Go.RowKit
theorem fbits_fun (u1 : Int) (u3 : Bool) (hpre : u3 = false ∧ 0 ≤ u1 ∧ u1 ≤ 9223372036854775807)  (Z : Fz) (w : World) (hg5 : SlR t8 Z (sm 5) 64 deBruijn64) (hZ : Z.on w) : Calls Tryz.prog 131 #[.slice none 0 0, y6 u1, i6 2, .bool u3, .bool false] w fun e w' => ∃ (ao1001 : Option Addr) (cap1002 : Nat) (Z' : Fz), e = .returned (.tuple #[.slice ao1001 (fbitsS u1 u3).1.length cap1002, str (fbitsS u1 u3).2]) ∧ Mem w.heap.size [] w Z [.own t8 5 ao1001 cap1002 (fbitsS u1 u3).1] Z' w' :=
  (fbits_walk u1 u3  Z w hg5 hZ (fbits_ok u1 u3 hpre)).mono fun _ _ ⟨r, h0, h1, h2, he, hk, hm⟩ => by subst hk; exact ⟨h0, h1, h2, he, hm⟩

theorem fint0_walk (u0 : Int)  (Z : Fz) (w : World) (hg5 : SlR t8 Z (sm 5) 64 deBruijn64) (hZ : Z.on w) {K : (List UInt8) → Prop} (hp : fint0_vc u0 K) : Calls Tryz.prog 110 #[i6 u0, i6 2] w fun e w' => ∃ r : (List UInt8), e = .returned (str r) ∧ K r ∧ Below w.heap.size w w' := by
 refine enter0 Tryz.func110 rfl rfl (by kernel_rfl) ?_; intro y d; have a := Mem.start w Z hZ; have f := Fz.le.refl Z
 refine sqB d a [] [] [] ?_; intro z g; clear d
 refine wp_seq ?_
 refine sqB g a [] [] [(11, .bool false)] ?_; intro A c; clear g
 refine cdF c (by kernel_rfl) ?_
 refine wp_skip ?_
 refine thn ?_
 refine sqH ?_; intro o h
 refine bt c a 5 [] [] [(46, y6 (wu64 u0)), (47, i6 2), (49, .bool (decide (u0 < 0)))] ?_; intro B i; clear c
 obtain ⟨p, j⟩ := hp
 refine ck i 131 #[.slice none 0 0, y6 (wu64 u0), i6 2, .bool (decide (u0 < 0)), .bool false] ?_
 refine (fbits_fun (wu64 u0) (decide (u0 < 0)) p _ _ hg5 a.fz).mono ?_; rintro _ q ⟨s, t, u, rfl, hm⟩; refine ⟨_, rfl, ?_⟩; intro C k; have l := a.callZ hm; have m := hm.ext.le; clear hm a i
 replace hg5 := hg5.mono m
 replace f := Fz.le.trans f m
 have b : Mem w.heap.size [] w Z [.own t8 5 s t (fbitsS (wu64 u0) (decide (u0 < 0))).1] u q := l; clear l
 have v := j (b.ownSmall 0 rfl); clear j
 refine bt k b 5 [] [] [(9, str (fbitsS (wu64 u0) (decide (u0 < 0))).2)] ?_; intro D n; clear k
 refine nlH (h _ _ ?_); clear h o
 refine sqB n b [] [] [(4, str (fbitsS (wu64 u0) (decide (u0 < 0))).2)] ?_; intro E x; clear n
 refine wp_ret ?_
 refine ra1 x (str (fbitsS (wu64 u0) (decide (u0 < 0))).2) ?_
 exact ⟨(fbitsS (wu64 u0) (decide (u0 < 0))).2, rfl, v, b.below⟩

end Go.Proofs.YtmbdcehmeiiaoaaGreatDoor
set_option linter.unusedVariables false
set_option linter.unusedSimpArgs false
set_option maxRecDepth 100000
set_option maxHeartbeats 0
namespace Go.Proofs.YtmbdcehmeiiaoaaGreatDoor
open Go.Sy Go.RowKit
theorem fint0_fun (u0 : Int) (hpre : 0 ≤ u0 ∧ u0 ≤ 9223372036854775807)  (Z : Fz) (w : World) (hg5 : SlR t8 Z (sm 5) 64 deBruijn64) (hZ : Z.on w) : Calls Tryz.prog 110 #[i6 u0, i6 2] w fun e w' => e = .returned (str (fintS u0)) ∧ Below w.heap.size w w' :=
  (fint0_walk u0  Z w hg5 hZ (fint_ok u0 hpre)).mono fun _ _ ⟨r, he, hk, hb⟩ => ⟨by subst hk; exact he, hb⟩

theorem fint1_walk (u0 : Int)  (Z : Fz) (w : World) (hg5 : SlR t8 Z (sm 5) 64 deBruijn64) (hZ : Z.on w) {K : (List UInt8) → Prop} (hp : fint1_vc u0 K) : Calls Tryz.prog 88 #[i6 u0, i6 2] w fun e w' => ∃ r : (List UInt8), e = .returned (str r) ∧ K r ∧ Below w.heap.size w w' := by
 refine enter0 Tryz.func88 rfl rfl (by kernel_rfl) ?_; intro m b; have a := Mem.start w Z hZ; have n := Fz.le.refl Z
 refine sqB b a [] [] [] ?_; intro o c; clear b
 refine sqH ?_; intro h d
 refine bt c a 2 [] [] [(5, i6 u0), (6, i6 2)] ?_; intro p f; clear c
 obtain ⟨i, j⟩ := hp
 refine fc f a (fint0_fun u0 i _ _ hg5 a.fz) ?_; intro q s g k; clear f a
 refine s1 g 4 (str (fintS u0)) ?_; intro t l; clear g
 refine nlH (d _ _ ?_); clear d h
 refine wp_ret ?_
 refine ra1 l (str (fintS u0)) ?_
 exact ⟨(fintS u0), rfl, j, k.below⟩

theorem rrow_walk (u0 : Int) (u1 : Int)  (Z : Fz) (w : World) (hg5 : SlR t8 Z (sm 5) 64 deBruijn64) (hZ : Z.on w) {K : ((List UInt8) × Bool) → Prop} (hp : rrow_vc u0 u1 K) : Calls Tryz.prog 59 #[i6 u0, i6 u1] w fun e w' => ∃ r : (List UInt8) × Bool, e = .returned (.tuple #[str r.1, .bool r.2]) ∧ K r ∧ Below w.heap.size w w' := by
 refine enter0 Tryz.func59 rfl rfl (by kernel_rfl) ?_; intro a0 m; have a := Mem.start w Z hZ; have ae := Fz.le.refl Z
 refine sqB m a [] [] [] ?_; intro a4 n; clear m
 refine sqB n a [] [] [(6, str [])] ?_; intro a7 o; clear n
 refine wp_seq ?_
 refine sqB o a [] [] [(8, .bool (decide (u0 > 0)))] ?_; intro af d; clear o
 refine cd d (t := decide (u0 > 0)) (by kernel_rfl) (fun j => ?_) (fun j => ?_)
 · -- yes
  have I := hp.1 j; clear hp
  refine rgH ?_; intro J p
  refine s1 d 9 (i6 u0) ?_; intro ag q; clear d
  refine ck q 88 #[i6 u0, i6 2] ?_
  refine (fint1_walk u0 _ _ hg5 a.fz I).mono ?_; rintro _ ah ⟨b, rfl, h, hb⟩; refine ⟨_, rfl, ?_⟩; intro ai s; have c := a.call hb; clear hb a q
  refine s1 s 6 (str b) ?_; intro aj u; clear s
  refine nlH (p _ _ ?_); clear p J
  refine thn ?_
  refine wp_seq ?_
  refine sqB u c [] [] [(14, .bool (decide ((b.length : Int) > u1)))] ?_; intro ak f; clear u
  refine cd f (t := decide ((b.length : Int) > u1)) (by kernel_rfl) (fun k => ?_) (fun k => ?_)
  · -- yes
   have L := h.1 k; clear h
   refine sqB f c [] [] [(4, str []), (5, .bool false)] ?_; intro al M; clear f
   refine wp_ret ?_
   refine thr ?_
   refine ra2 M (.tuple #[str [], .bool false]) ?_
   exact ⟨([], false), rfl, L, c.below⟩
  · -- no
   have N := h.2 k; clear h
   refine wp_skip ?_
   refine thn ?_
   refine sqH ?_; intro O v
   refine bt f c 4 [] [] [(18, i6 (w64 (u1 - (b.length : Int))))] ?_; intro am x; clear f
   obtain ⟨P, Q⟩ := N
   refine fc x c (srep_fun ([48] : List UInt8) (w64 (u1 - (b.length : Int))) P _ _ c.fz) ?_; intro an ao y z; clear x c
   refine s1 y 20 (str b) ?_; intro ap A; clear y
   obtain ⟨R, S⟩ := Q
   refine sa A R ?_; intro aq B; clear A
   refine bt B z 2 [] [] [(4, str ((srepS ([48] : List UInt8) (w64 (u1 - (b.length : Int)))) ++ b)), (5, .bool true)] ?_; intro ar T; clear B
   refine nlH (v _ _ ?_); clear v O
   refine wp_ret ?_
   refine ra2 T (.tuple #[str ((srepS ([48] : List UInt8) (w64 (u1 - (b.length : Int)))) ++ b), .bool true]) ?_
   exact ⟨((srepS ([48] : List UInt8) (w64 (u1 - (b.length : Int)))) ++ b, true), rfl, S, z.below⟩
 · -- no
  have i := hp.2 j; clear hp
  refine wp_skip ?_
  refine thn ?_
  refine wp_seq ?_
  refine sqB d a [] [] [(14, .bool (decide (0 > u1)))] ?_; intro au g; clear d
  refine cd g (t := decide (0 > u1)) (by kernel_rfl) (fun l => ?_) (fun l => ?_)
  · -- yes
   have U := i.1 l; clear i
   refine sqB g a [] [] [(4, str []), (5, .bool false)] ?_; intro av V; clear g
   refine wp_ret ?_
   refine thr ?_
   refine ra2 V (.tuple #[str [], .bool false]) ?_
   exact ⟨([], false), rfl, U, a.below⟩
  · -- no
   have W := i.2 l; clear i
   refine wp_skip ?_
   refine thn ?_
   refine sqH ?_; intro X C
   refine bt g a 4 [] [] [(18, i6 (w64 (u1 - 0)))] ?_; intro aw D; clear g
   obtain ⟨Y, aa⟩ := W
   refine fc D a (srep_fun ([48] : List UInt8) (w64 (u1 - 0)) Y _ _ a.fz) ?_; intro ax ay E F; clear D a
   refine s1 E 20 (str []) ?_; intro az G; clear E
   obtain ⟨ab, ac⟩ := aa
   refine sa G ab ?_; intro aA H; clear G
   refine bt H F 2 [] [] [(4, str ((srepS ([48] : List UInt8) (w64 (u1 - 0))) ++ ([] : List UInt8))), (5, .bool true)] ?_; intro aB ad; clear H
   refine nlH (C _ _ ?_); clear C X
   refine wp_ret ?_
   refine ra2 ad (.tuple #[str ((srepS ([48] : List UInt8) (w64 (u1 - 0))) ++ ([] : List UInt8)), .bool true]) ?_
   exact ⟨((srepS ([48] : List UInt8) (w64 (u1 - 0))) ++ ([] : List UInt8), true), rfl, ac, F.below⟩

end Go.Proofs.YtmbdcehmeiiaoaaGreatDoor
set_option linter.unusedVariables false
set_option linter.unusedSimpArgs false
namespace Go.Proofs.YtmbdcehmeiiaoaaGreatDoor
open Go.Sy Go.RowKit
theorem rrow_fun (u0 : Int) (u1 : Int) (hpre : u0 ≤ 9223372036854775807 ∧ u1 ≤ 1000000)  (Z : Fz) (w : World) (hg5 : SlR t8 Z (sm 5) 64 deBruijn64) (hZ : Z.on w) : Calls Tryz.prog 59 #[i6 u0, i6 u1] w fun e w' => e = .returned (.tuple #[str (rrowS u0 u1).1, .bool (rrowS u0 u1).2]) ∧ Below w.heap.size w w' :=
  (rrow_walk u0 u1  Z w hg5 hZ (rrow_ok u0 u1 hpre)).mono fun _ _ ⟨r, he, hk, hb⟩ => ⟨by subst hk; exact he, hb⟩

end Go.Proofs.YtmbdcehmeiiaoaaGreatDoor
set_option linter.unusedVariables false
set_option linter.unusedSimpArgs false
set_option maxRecDepth 100000
set_option maxHeartbeats 0
namespace Go.Proofs.YtmbdcehmeiiaoaaGreatDoor
open Go.Sy Go.RowKit
theorem gnew_fun (u0 : Int) (hpre : 0 ≤ u0 ∧ u0 ≤ 9223372036854775807)  (Z : Fz) (w : World)  (hZ : Z.on w) : Calls Tryz.prog 81 #[i6 u0] w fun e w' => ∃ (b1001 : Nat) (ao1002 : Option Addr) (cap1003 : Nat) (Z' : Fz), e = .returned (pt b1001 0) ∧ SlR (tyInt .u32) Z' ao1002 cap1003 (gnewS u0).abs ∧ Mem w.heap.size [] w Z [.row b1001 [.bool (gnewS u0).neg, .slice ao1002 (gnewS u0).abs.length cap1003] 117] Z' w' :=
  (gnew_walk u0  Z w  hZ (gnew_ok u0 hpre)).mono fun _ _ ⟨r, h0, h1, h2, h3, he, hk, f0, hm⟩ => by subst hk; exact ⟨h0, h1, h2, h3, he, f0, hm⟩

theorem rvalue_fun (u0 : List UInt8) (hpre : isRow u0 = true ∧ u0.length ≤ 1000)  (Z : Fz) (w : World)  (hZ : Z.on w) : Calls Tryz.prog 79 #[str u0] w fun e w' => ∃ (b1001 : Nat) (ao1002 : Option Addr) (cap1003 : Nat) (Z' : Fz), e = .returned (pt b1001 0) ∧ SlR (tyInt .u32) Z' ao1002 cap1003 (rvalueS u0).abs ∧ Mem w.heap.size [] w Z [.row b1001 [.bool (rvalueS u0).neg, .slice ao1002 (rvalueS u0).abs.length cap1003] 117] Z' w' :=
  (rvalue_walk u0  Z w  hZ (rvalue_ok u0 hpre)).mono fun _ _ ⟨r, h0, h1, h2, h3, he, hk, f0, hm⟩ => by subst hk; exact ⟨h0, h1, h2, h3, he, f0, hm⟩

theorem rsumof_walk (u0 : Int) (u1 : List UInt8)  (Z : Fz) (w : World) (hg5 : SlR t8 Z (sm 5) 64 deBruijn64) (hZ : Z.on w) {K : (List UInt8) → Prop} (hp : rsumof_vc u0 u1 K) : Calls Tryz.prog 49 #[i6 u0, str u1] w fun e w' => ∃ r : (List UInt8), e = .returned (str r) ∧ K r ∧ Below w.heap.size w w' := by
 refine enter0 Tryz.func49 rfl rfl (by kernel_rfl) ?_; intro a0 b7; have bH := Mem.start w Z hZ; have c := Fz.le.refl Z
 refine sqB b7 bH [] [] [] ?_; intro a2 b8; clear b7
 refine sqH ?_; intro eK b9
 refine nw b8 bH (fun b => .slice (sm b) 5 5) [i6 15, i6 17, i6 21, i6 8, i6 16] 3 ?_; intro b5 a6 ca cb cc; clear b8 bH
 refine s1 cb 15 (i6 u0) ?_; intro gX ce; clear cb
 have eL : Mem w.heap.size [] w Z [.own t6 3 (sm b5) 5 ([15, 17, 21, 8, 16] : List Int)] Z ca := cc.rowOwn (T := t6) (xs := ([15, 17, 21, 8, 16] : List Int)) 0 rfl (by decide) (by show 5 ≤ lim; decide) ((RepAll.one (T := t6) (x := 15) rfl).append ((RepAll.one (T := t6) (x := 17) rfl).append ((RepAll.one (T := t6) (x := 21) rfl).append ((RepAll.one (T := t6) (x := 8) rfl).append (RepAll.one (T := t6) (x := 16) rfl))))); clear cc
 obtain ⟨cf, cg, ch, o⟩ := eL.freeze 0 rfl
 replace hg5 := hg5.mono cg
 replace c := Fz.le.trans c cg
 have bI : Mem w.heap.size [] w Z [] cf ca := ch; clear ch
 obtain ⟨eM, ci⟩ := hp
 refine ix ce (T := t6) (xs := ([15, 17, 21, 8, 16] : List Int)) o u0 eM (k := .i64) (e := 3) (bytes := 8) (nog rfl _) rfl (by kernel_rfl) rfl (by kernel_rfl) (by kernel_rfl) (by kernel_rfl) ?_; intro gY gZ eN g g0 eO p eP cj; clear ce
 have eQ := ci g eO; clear ci
 obtain rfl : eN = ([i6 g] : List Value) := eP
 refine z1 cj bI 17 p 0 (i6 g) rfl ?_; intro g1 cl; clear cj
 refine s1 cl 5 (i6 g) ?_; intro g2 cm; clear cl
 refine nlH (b9 _ _ ?_); clear b9 eK
 refine sqH ?_; intro eR cn
 refine nw cm bI (fun b => .slice (sm b) 5 5) [i6 17817, i6 92251, i6 1058969, i6 47, i6 4129] 2 ?_; intro eS g3 co cp cq; clear cm bI
 refine s1 cp 19 (i6 u0) ?_; intro g4 cr; clear cp
 have eT : Mem w.heap.size [] w Z [.own t6 2 (sm eS) 5 ([17817, 92251, 1058969, 47, 4129] : List Int)] cf co := cq.rowOwn (T := t6) (xs := ([17817, 92251, 1058969, 47, 4129] : List Int)) 0 rfl (by decide) (by show 5 ≤ lim; decide) ((RepAll.one (T := t6) (x := 17817) rfl).append ((RepAll.one (T := t6) (x := 92251) rfl).append ((RepAll.one (T := t6) (x := 1058969) rfl).append ((RepAll.one (T := t6) (x := 47) rfl).append (RepAll.one (T := t6) (x := 4129) rfl))))); clear cq
 obtain ⟨cs, bl, ct, z⟩ := eT.freeze 0 rfl
 replace hg5 := hg5.mono bl
 replace o := o.mono bl
 replace p := p.mono bl
 replace c := Fz.le.trans c bl
 have bJ : Mem w.heap.size [] w Z [] cs co := ct; clear ct
 obtain ⟨eU, cu⟩ := eQ
 refine ix cr (T := t6) (xs := ([17817, 92251, 1058969, 47, 4129] : List Int)) z u0 eU (k := .i64) (e := 2) (bytes := 8) (nog rfl _) rfl (by kernel_rfl) rfl (by kernel_rfl) (by kernel_rfl) (by kernel_rfl) ?_; intro g5 g6 eV S g7 eW A eX cv; clear cr
 have eY := cu S eW; clear cu
 obtain rfl : eV = ([i6 S] : List Value) := eX
 refine z1 cv bJ 21 A 0 (i6 S) rfl ?_; intro g8 cw; clear cv
 refine s1 cw 6 (i6 S) ?_; intro g9 cx; clear cw
 refine nlH (cn _ _ ?_); clear cn eR
 refine sqH ?_; intro eZ cy
 refine nw cx bJ (fun b => .slice (sm b) 5 5) [i6 0, i6 65536, i6 1048576, i6 255, i6 65535] 2 ?_; intro e0 ha cz cA cB; clear cx bJ
 refine s1 cA 23 (i6 u0) ?_; intro hb cC; clear cA
 have e1 : Mem w.heap.size [] w Z [.own t6 2 (sm e0) 5 ([0, 65536, 1048576, 255, 65535] : List Int)] cs cz := cB.rowOwn (T := t6) (xs := ([0, 65536, 1048576, 255, 65535] : List Int)) 0 rfl (by decide) (by show 5 ≤ lim; decide) ((RepAll.one (T := t6) (x := 0) rfl).append ((RepAll.one (T := t6) (x := 65536) rfl).append ((RepAll.one (T := t6) (x := 1048576) rfl).append ((RepAll.one (T := t6) (x := 255) rfl).append (RepAll.one (T := t6) (x := 65535) rfl))))); clear cB
 obtain ⟨cD, aK, cE, C⟩ := e1.freeze 0 rfl
 replace hg5 := hg5.mono aK
 replace o := o.mono aK
 replace p := p.mono aK
 replace z := z.mono aK
 replace A := A.mono aK
 replace c := Fz.le.trans c aK
 have bK : Mem w.heap.size [] w Z [] cD cz := cE; clear cE
 obtain ⟨e2, cF⟩ := eY
 refine ix cC (T := t6) (xs := ([0, 65536, 1048576, 255, 65535] : List Int)) C u0 e2 (k := .i64) (e := 2) (bytes := 8) (nog rfl _) rfl (by kernel_rfl) rfl (by kernel_rfl) (by kernel_rfl) (by kernel_rfl) ?_; intro hc hd e3 W he e4 D e5 cG; clear cC
 have e6 := cF W e4; clear cF
 obtain rfl : e3 = ([i6 W] : List Value) := e5
 refine z1 cG bK 25 D 0 (i6 W) rfl ?_; intro hf cH; clear cG
 refine s1 cH 7 (i6 W) ?_; intro hg cI; clear cH
 refine nlH (cy _ _ ?_); clear cy eZ
 refine sqH ?_; intro e7 cJ
 refine nw cI bK (fun b => .slice (sm b) 5 5) [i6 0, i6 0, i6 0, i6 255, i6 0] 2 ?_; intro e8 hh cK cL cM; clear cI bK
 refine s1 cL 27 (i6 u0) ?_; intro hi cN; clear cL
 have e9 : Mem w.heap.size [] w Z [.own t6 2 (sm e8) 5 ([0, 0, 0, 255, 0] : List Int)] cD cK := cM.rowOwn (T := t6) (xs := ([0, 0, 0, 255, 0] : List Int)) 0 rfl (by decide) (by show 5 ≤ lim; decide) ((RepAll.one (T := t6) (x := 0) rfl).append ((RepAll.one (T := t6) (x := 0) rfl).append ((RepAll.one (T := t6) (x := 0) rfl).append ((RepAll.one (T := t6) (x := 255) rfl).append (RepAll.one (T := t6) (x := 0) rfl))))); clear cM
 obtain ⟨fa, ag, cO, F⟩ := e9.freeze 0 rfl
 replace hg5 := hg5.mono ag
 replace o := o.mono ag
 replace p := p.mono ag
 replace z := z.mono ag
 replace A := A.mono ag
 replace C := C.mono ag
 replace D := D.mono ag
 replace c := Fz.le.trans c ag
 have bm : Mem w.heap.size [] w Z [] fa cK := cO; clear cO
 obtain ⟨fb, cP⟩ := e6
 refine ix cN (T := t6) (xs := ([0, 0, 0, 255, 0] : List Int)) F u0 fb (k := .i64) (e := 2) (bytes := 8) (nog rfl _) rfl (by kernel_rfl) rfl (by kernel_rfl) (by kernel_rfl) (by kernel_rfl) ?_; intro hj hk fd E hl fe G ff cQ; clear cN
 have fg := cP E fe; clear cP
 obtain rfl : fd = ([i6 E] : List Value) := ff
 refine z1 cQ bm 29 G 0 (i6 E) rfl ?_; intro hn cR; clear cQ
 refine s1 cR 8 (i6 E) ?_; intro ho cS; clear cR
 refine nlH (cJ _ _ ?_); clear cJ e7
 refine sqH ?_; intro fh cT
 refine s1 cS 30 (str u1) ?_; intro hq cU; clear cS
 obtain ⟨fi, fj⟩ := fg
 refine ck cU 79 #[str u1] ?_
 refine (rvalue_fun u1 fi _ _ bm.fz).mono ?_; rintro _ fk ⟨a, cV, cW, fl, rfl, J, hm⟩; refine ⟨_, rfl, ?_⟩; intro hr cX; have cY := bm.callZ hm; have X := hm.ext.le; clear hm bm cU
 replace hg5 := hg5.mono X
 replace o := o.mono X
 replace p := p.mono X
 replace z := z.mono X
 replace A := A.mono X
 replace C := C.mono X
 replace D := D.mono X
 replace F := F.mono X
 replace G := G.mono X
 replace c := Fz.le.trans c X
 have bn : Mem w.heap.size [] w Z [.row a [.bool (rvalueS u1).neg, .slice cV (rvalueS u1).abs.length cW] 117] fl fk := cY; clear cY
 refine s1 cX 9 (pt a 0) ?_; intro hs cZ; clear cX
 refine nlH (cT _ _ ?_); clear cT fh
 refine sqH ?_; intro fm c0
 refine bt cZ bn 4 [] [] [(32, pt a 0), (33, pt a 0), (35, y6 (wu64 g))] ?_; intro ht c1; clear cZ
 obtain ⟨fn, c2⟩ := fj
 refine ck c1 80 #[pt a 0, pt a 0, y6 (wu64 g)] ?_
 obtain ⟨aD, fo, c3⟩ := hxq c2; clear c2
 have d := glshA_fun (rvalueS u1) (wu64 g) fn a cV cW _ _ _ _ _ _ J bn bn.fz; rw [fo] at d; refine d.mono ?_; clear d; rintro _ fp ⟨bo, bp, fq, rfl, U, L, hm⟩; refine ⟨_, rfl, ?_⟩; intro hu c4; have c5 := hm; clear hm bn c1
 replace hg5 := hg5.mono U
 replace o := o.mono U
 replace p := p.mono U
 replace z := z.mono U
 replace A := A.mono U
 replace C := C.mono U
 replace D := D.mono U
 replace F := F.mono U
 replace G := G.mono U
 replace J := J.mono U
 replace c := Fz.le.trans c U
 have bL : Mem w.heap.size [] w Z [.row a [.bool aD.neg, .slice bo aD.abs.length bp] 117] fq fp := c5; clear c5
 have fr := c3 (L.small); clear c3
 refine nlH (c0 _ _ ?_); clear c0 fm
 refine sqH ?_; intro fs c6
 refine s1 c4 37 (i6 W) ?_; intro hv c7; clear c4
 obtain ⟨ft, fu⟩ := fr
 refine ck c7 81 #[i6 W] ?_
 refine (gnew_fun W ft _ _ bL.fz).mono ?_; rintro _ fv ⟨q, c8, c9, fw, rfl, V, hm⟩; refine ⟨_, rfl, ?_⟩; intro hw da; have db := bL.callZ hm; have Q := hm.ext.le; clear hm bL c7
 replace hg5 := hg5.mono Q
 replace o := o.mono Q
 replace p := p.mono Q
 replace z := z.mono Q
 replace A := A.mono Q
 replace C := C.mono Q
 replace D := D.mono Q
 replace F := F.mono Q
 replace G := G.mono Q
 replace J := J.mono Q
 replace L := L.mono Q
 replace c := Fz.le.trans c Q
 have bq : Mem w.heap.size [] w Z [.row q [.bool (gnewS W).neg, .slice c8 (gnewS W).abs.length c9] 117, .row a [.bool aD.neg, .slice bo aD.abs.length bp] 117] fw fv := db; clear db
 refine s1 da 10 (pt q 0) ?_; intro hx dc; clear da
 refine nlH (c6 _ _ ?_); clear c6 fs
 refine sqH ?_; intro fx dd
 refine bt dc bq 7 [] [] [(39, pt a 0), (40, pt a 0), (41, pt q 0), (42, pt q 0), (45, y6 (wu64 (u1.length : Int)))] ?_; intro hy de; clear dc
 obtain ⟨fy, df⟩ := fu
 refine ck de 80 #[pt q 0, pt q 0, y6 (wu64 (u1.length : Int))] ?_
 obtain ⟨bM, fA, dg⟩ := hxq df; clear df
 have d := glshA_fun (gnewS W) (wu64 (u1.length : Int)) fy q c8 c9 _ _ _ _ _ _ V bq bq.fz; rw [fA] at d; refine d.mono ?_; clear d; rintro _ fB ⟨dh, di, fC, rfl, N, Y, hm⟩; refine ⟨_, rfl, ?_⟩; intro hz dj; have dk := hm; clear hm bq de
 replace hg5 := hg5.mono N
 replace o := o.mono N
 replace p := p.mono N
 replace z := z.mono N
 replace A := A.mono N
 replace C := C.mono N
 replace D := D.mono N
 replace F := F.mono N
 replace G := G.mono N
 replace J := J.mono N
 replace L := L.mono N
 replace V := V.mono N
 replace c := Fz.le.trans c N
 have bN : Mem w.heap.size [] w Z [.row q [.bool bM.neg, .slice dh bM.abs.length di] 117, .row a [.bool aD.neg, .slice bo aD.abs.length bp] 117] fC fB := dk; clear dk
 have fD := dg (Y.small); clear dg
 obtain ⟨fE, dl⟩ := fD
 refine ck dj 82 #[pt a 0, pt a 0, pt q 0] ?_
 obtain ⟨f, fF, dm⟩ := hxq dl; clear dl
 have d := gxor_fun aD bM fE a bo bp q dh di _ _ _ _ _ _ L Y (bN.perm ((pk 1 rfl).trans ((List.Perm.refl _).cons _))) bN.fz; rw [fF] at d; refine d.mono ?_; clear d; rintro _ fG ⟨br, bs, O, P, fH, rfl, M, ah, aE, hm⟩; refine ⟨_, rfl, ?_⟩; intro fI dn; have dp := hm; clear hm bN dj
 replace hg5 := hg5.mono M
 replace o := o.mono M
 replace p := p.mono M
 replace z := z.mono M
 replace A := A.mono M
 replace C := C.mono M
 replace D := D.mono M
 replace F := F.mono M
 replace G := G.mono M
 replace J := J.mono M
 replace L := L.mono M
 replace V := V.mono M
 replace Y := Y.mono M
 replace c := Fz.le.trans c M
 have bO : Mem w.heap.size [] w Z [.row a [.bool f.1.neg, .slice br f.1.abs.length bs] 117, .row q [.bool f.2.neg, .slice O f.2.abs.length P] 117] fH fG := dp; clear dp
 have dq := dm (ah.small); clear dm
 have fJ := dq (aE.small); clear dq
 refine nlH (dd _ _ ?_); clear dd fx
 have dr : Fr 83 [] [⟨5, [], i6 g⟩, ⟨6, [], i6 S⟩, ⟨8, [], i6 E⟩, ⟨9, [], pt a 0⟩] fI := dn.region (by kernel_rfl) (by kernel_rfl); clear dn
 refine sqH ?_; intro fK ds
 refine s1 dr 48 (i6 S) ?_; intro hA dt; clear dr
 obtain ⟨fL, fM⟩ := fJ
 refine ck dt 81 #[i6 S] ?_
 refine (gnew_fun S fL _ _ bO.fz).mono ?_; rintro _ fN ⟨i, du, dv, fO, rfl, ba, hm⟩; refine ⟨_, rfl, ?_⟩; intro hB dw; have dx := bO.callZ hm; have I := hm.ext.le; clear hm bO dt
 replace hg5 := hg5.mono I
 replace o := o.mono I
 replace p := p.mono I
 replace z := z.mono I
 replace A := A.mono I
 replace C := C.mono I
 replace D := D.mono I
 replace F := F.mono I
 replace G := G.mono I
 replace J := J.mono I
 replace L := L.mono I
 replace V := V.mono I
 replace Y := Y.mono I
 replace ah := ah.mono I
 replace aE := aE.mono I
 replace c := Fz.le.trans c I
 have bu : Mem w.heap.size [] w Z [.row i [.bool (gnewS S).neg, .slice du (gnewS S).abs.length dv] 117, .row a [.bool f.1.neg, .slice br f.1.abs.length bs] 117, .row q [.bool f.2.neg, .slice O f.2.abs.length P] 117] fO fN := dx; clear dx
 refine s1 dw 11 (pt i 0) ?_; intro hC dy; clear dw
 refine nlH (ds _ _ ?_); clear ds fK
 refine sqH ?_; intro fP dz
 refine bt dy bu 3 [] [] [(50, pt i 0), (51, pt i 0), (52, i6 g)] ?_; intro hD dA; clear dy
 obtain ⟨fQ, dB⟩ := fM
 refine ck dA 83 #[pt i 0, pt i 0, i6 g, y6 1] ?_
 obtain ⟨bP, fR, dC⟩ := hxq dB; clear dB
 have d := gsetbit_fun (gnewS S) g 1 fQ i du dv _ _ _ _ _ _ ba bu bu.fz; rw [fR] at d; refine d.mono ?_; clear d; rintro _ fS ⟨dD, dE, bb, rfl, H, bv, hm⟩; refine ⟨_, rfl, ?_⟩; intro bw dF; have dG := hm; clear hm bu dA
 replace hg5 := hg5.mono H
 replace o := o.mono H
 replace p := p.mono H
 replace z := z.mono H
 replace A := A.mono H
 replace C := C.mono H
 replace D := D.mono H
 replace F := F.mono H
 replace G := G.mono H
 replace J := J.mono H
 replace L := L.mono H
 replace V := V.mono H
 replace Y := Y.mono H
 replace ah := ah.mono H
 replace aE := aE.mono H
 replace ba := ba.mono H
 replace c := Fz.le.trans c H
 have bQ : Mem w.heap.size [] w Z [.row i [.bool bP.neg, .slice dD bP.abs.length dE] 117, .row a [.bool f.1.neg, .slice br f.1.abs.length bs] 117, .row q [.bool f.2.neg, .slice O f.2.abs.length P] 117] bb fS := dG; clear dG
 have fT := dC (bv.small); clear dC
 refine nlH (dz _ _ ?_); clear dz fP
 have dH : Fr 83 [] [⟨5, [], i6 g⟩, ⟨8, [], i6 E⟩, ⟨9, [], pt a 0⟩, ⟨11, [], pt i 0⟩] bw := dF.region (by kernel_rfl) (by kernel_rfl); clear dF
 have bR : Fr 83 [] [⟨5, [], i6 g⟩, ⟨8, [], i6 E⟩, ⟨9, [], pt a 0⟩, ⟨11, [], pt i 0⟩] bw := dH.region (by kernel_rfl) (by kernel_rfl); clear dH
 obtain ⟨fU, fV, fW⟩ := fT
 refine wp_seq_k fun KJ287 hKJ288 => ?_
 have fX : ∀ (R : BInt) (ab : BInt) (aL : Option Addr) (aM : Nat) (bc : Option Addr) (bd : Nat) (be : Fz), fU R ab ∧ SlR (tyInt .u32) be aL aM R.abs ∧ SlR (tyInt .u32) be bc bd ab.abs ∧ Fz.le bb be → ∀ a1 w1, Fr 83 [] [⟨5, [], i6 g⟩, ⟨8, [], i6 E⟩, ⟨9, [], pt a 0⟩] a1 → Mem w.heap.size [] w Z [.row i [.bool R.neg, .slice aL R.abs.length aM] 117, .row a [.bool ab.neg, .slice bc ab.abs.length bd] 117, .row q [.bool f.2.neg, .slice O f.2.abs.length P] 117] be w1 → KJ287 a1 w1 := by
  rintro R ab aL aM bc bd be ⟨fY, aN, aF, l⟩ hE hF dI bx; clear bR bQ
  refine hKJ288 _ _ ?_; clear hKJ288
  have fZ := fW R ab fY
  replace c := Fz.le.trans c l
  have aG := hg5.mono l
  have aO := o.mono l
  have aP := p.mono l
  have aQ := z.mono l
  have aR := A.mono l
  have aS := C.mono l
  have aT := D.mono l
  have aU := F.mono l
  have aV := G.mono l
  have aW := J.mono l
  have aX := L.mono l
  have aY := V.mono l
  have aZ := Y.mono l
  have a3 := ah.mono l
  have a4 := aE.mono l
  have a5 := ba.mono l
  have a7 := bv.mono l
  refine sqH ?_; intro f0 dJ
  refine bt dI bx 3 [] [] [(70, pt a 0), (71, pt a 0), (72, i6 E)] ?_; intro hG dK; clear dI
  obtain ⟨f1, f2⟩ := fZ
  refine ck dK 81 #[i6 E] ?_
  refine (gnew_fun E f1 _ _ bx.fz).mono ?_; rintro _ f3 ⟨bf, dL, dM, f4, rfl, bg, hm⟩; refine ⟨_, rfl, ?_⟩; intro hH dN; have dO := bx.callZ hm; have B := hm.ext.le; clear hm bx dK
  replace aG := aG.mono B
  replace aO := aO.mono B
  replace aP := aP.mono B
  replace aQ := aQ.mono B
  replace aR := aR.mono B
  replace aS := aS.mono B
  replace aT := aT.mono B
  replace aU := aU.mono B
  replace aV := aV.mono B
  replace aW := aW.mono B
  replace aX := aX.mono B
  replace aY := aY.mono B
  replace aZ := aZ.mono B
  replace a3 := a3.mono B
  replace a4 := a4.mono B
  replace a5 := a5.mono B
  replace a7 := a7.mono B
  replace aN := aN.mono B
  replace aF := aF.mono B
  replace l := l.mono B
  replace c := Fz.le.trans c B
  have bS : Mem w.heap.size [] w Z [.row bf [.bool (gnewS E).neg, .slice dL (gnewS E).abs.length dM] 117, .row i [.bool R.neg, .slice aL R.abs.length aM] 117, .row a [.bool ab.neg, .slice bc ab.abs.length bd] 117, .row q [.bool f.2.neg, .slice O f.2.abs.length P] 117] f4 f3 := dO; clear dO
  obtain ⟨f5, dP⟩ := f2
  refine ck dN 82 #[pt a 0, pt a 0, pt bf 0] ?_
  obtain ⟨aH, f6, dQ⟩ := hxq dP; clear dP
  have d := gxor_fun ab (gnewS E) f5 a bc bd bf dL dM _ _ _ _ _ _ aF bg (bS.perm ((pk 2 rfl).trans ((List.Perm.refl _).cons _))) bS.fz; rw [f6] at d; refine d.mono ?_; clear d; rintro _ f7 ⟨dR, dS, dT, dU, f8, rfl, v, bz, bT, hm⟩; refine ⟨_, rfl, ?_⟩; intro hI dV; have dW := hm; clear hm bS dN
  replace aG := aG.mono v
  replace aO := aO.mono v
  replace aP := aP.mono v
  replace aQ := aQ.mono v
  replace aR := aR.mono v
  replace aS := aS.mono v
  replace aT := aT.mono v
  replace aU := aU.mono v
  replace aV := aV.mono v
  replace aW := aW.mono v
  replace aX := aX.mono v
  replace aY := aY.mono v
  replace aZ := aZ.mono v
  replace a3 := a3.mono v
  replace a4 := a4.mono v
  replace a5 := a5.mono v
  replace a7 := a7.mono v
  replace aN := aN.mono v
  replace aF := aF.mono v
  replace l := l.mono v
  replace bg := bg.mono v
  replace c := Fz.le.trans c v
  have bU : Mem w.heap.size [] w Z [.row a [.bool aH.1.neg, .slice dR aH.1.abs.length dS] 117, .row bf [.bool aH.2.neg, .slice dT aH.2.abs.length dU] 117, .row i [.bool R.neg, .slice aL R.abs.length aM] 117, .row q [.bool f.2.neg, .slice O f.2.abs.length P] 117] f8 f7 := dW; clear dW
  have dX := dQ (bz.small); clear dQ
  have f9 := dX (bT.small); clear dX
  refine nlH (dJ _ _ ?_); clear dJ f0
  refine sqH ?_; intro ga dY
  refine s1 dV 76 (pt a 0) ?_; intro hJ dZ; clear dV
  obtain ⟨gb, d0⟩ := f9
  refine ck dZ 85 #[pt a 0] ?_
  obtain ⟨aI, gc, d1⟩ := hxq d0; clear d0
  have d := gint64_fun aH.1 gb a dR dS _ _ _ _ _ _ bz bU bU.fz; rw [gc] at d; refine d.mono ?_; clear d; rintro _ gd ⟨ge, gf, gg, rfl, m, gh, hm⟩; refine ⟨_, rfl, ?_⟩; intro hK d2; have d3 := hm; clear hm bU dZ
  replace aG := aG.mono m
  replace aO := aO.mono m
  replace aP := aP.mono m
  replace aQ := aQ.mono m
  replace aR := aR.mono m
  replace aS := aS.mono m
  replace aT := aT.mono m
  replace aU := aU.mono m
  replace aV := aV.mono m
  replace aW := aW.mono m
  replace aX := aX.mono m
  replace aY := aY.mono m
  replace aZ := aZ.mono m
  replace a3 := a3.mono m
  replace a4 := a4.mono m
  replace a5 := a5.mono m
  replace a7 := a7.mono m
  replace aN := aN.mono m
  replace aF := aF.mono m
  replace l := l.mono m
  replace bg := bg.mono m
  replace bz := bz.mono m
  replace bT := bT.mono m
  replace c := Fz.le.trans c m
  have bV : Mem w.heap.size [] w Z [.row a [.bool aI.2.neg, .slice ge aI.2.abs.length gf] 117, .row bf [.bool aH.2.neg, .slice dT aH.2.abs.length dU] 117, .row i [.bool R.neg, .slice aL R.abs.length aM] 117, .row q [.bool f.2.neg, .slice O f.2.abs.length P] 117] gg gd := d3; clear d3
  have gi := d1 (gh.small); clear d1
  refine s1 d2 78 (i6 g) ?_; intro hL d4; clear d2
  obtain ⟨gj, gk⟩ := gi
  refine fc d4 bV (rrow_fun aI.1 g gj _ _ aG bV.fz) ?_; intro hM hN d5 bW; clear d4 bV
  refine bt d5 bW 5 [] [] [(12, str (rrowS aI.1 g).1)] ?_; intro hO d6; clear d5
  refine nlH (dY _ _ ?_); clear dY ga
  refine sqB d6 bW [] [] [(4, str (rrowS aI.1 g).1)] ?_; intro hP gl; clear d6
  refine wp_ret ?_
  refine ra1 gl (str (rrowS aI.1 g).1) ?_
  exact ⟨(rrowS aI.1 g).1, rfl, gk, bW.below⟩
 have gm := Fz.le.refl bb
 refine wp_block ?_
 have d7 : Fr 83 [] [⟨5, [], i6 g⟩, ⟨8, [], i6 E⟩, ⟨9, [], pt a 0⟩, ⟨11, [], pt i 0⟩] bw := bR.region (by kernel_rfl) (by kernel_rfl); clear bR
 have d8 : Fr 83 [] [⟨5, [], i6 g⟩, ⟨8, [], i6 E⟩, ⟨9, [], pt a 0⟩, ⟨11, [], pt i 0⟩] bw := d7.region (by kernel_rfl) (by kernel_rfl); clear d7
 obtain ⟨gn, go, gp, gq⟩ := fV
 have hQ := c
 refine lp (ι := BInt × BInt × (Option Addr) × Nat × (Option Addr) × Nat × Fz) (fun s => [⟨5, [], i6 g⟩, ⟨8, [], i6 E⟩, ⟨9, [], pt a 0⟩, ⟨11, [], pt i 0⟩]) (fun s => [.row i [.bool s.1.neg, .slice s.2.2.1 s.1.abs.length s.2.2.2.1] 117, .row a [.bool s.2.1.neg, .slice s.2.2.2.2.1 s.2.1.abs.length s.2.2.2.2.2.1] 117, .row q [.bool f.2.neg, .slice O f.2.abs.length P] 117]) (fun s => s.2.2.2.2.2.2) (fun s => gn s.1 s.2.1 ∧ SlR (tyInt .u32) s.2.2.2.2.2.2 s.2.2.1 s.2.2.2.1 s.1.abs ∧ SlR (tyInt .u32) s.2.2.2.2.2.2 s.2.2.2.2.1 s.2.2.2.2.2.1 s.2.1.abs ∧ Fz.le bb s.2.2.2.2.2.2) (fun s => go s.1 s.2.1) ⟨bP, f.1, dD, dE, br, bs, bb⟩ ⟨gp, bv, ah, Fz.le.refl _⟩ (by exact d8.region (by kernel_rfl) (by kernel_rfl)) (by exact bQ) ?_
 rintro ⟨ac, bA, bh, bi, d9, ea, gr⟩ ⟨gs, aa, ad, h⟩ gt gu eb ec
 have ed : Fr 83 [] [⟨5, [], i6 g⟩, ⟨8, [], i6 E⟩, ⟨9, [], pt a 0⟩, ⟨11, [], pt i 0⟩] gt := eb; clear eb d8
 have bX : Mem w.heap.size [] w Z [.row i [.bool ac.neg, .slice bh ac.abs.length bi] 117, .row a [.bool bA.neg, .slice d9 bA.abs.length ea] 117, .row q [.bool f.2.neg, .slice O f.2.abs.length P] 117] gr gu := ec; clear ec bQ
 have gv := gq ac bA gs
 replace c := Fz.le.trans c h
 have ai := hg5.mono h
 have aj := o.mono h
 have ak := p.mono h
 have al := z.mono h
 have am := A.mono h
 have an := C.mono h
 have ao := D.mono h
 have ap := F.mono h
 have aq := G.mono h
 have ar := J.mono h
 have au := L.mono h
 have av := V.mono h
 have aw := Y.mono h
 have ax := ah.mono h
 have ay := aE.mono h
 have az := ba.mono h
 have aA := bv.mono h
 have ae := gm.mono h
 refine wp_seq ?_
 refine sqH ?_; intro gw ee
 refine s1 ed 54 (pt a 0) ?_; intro hR ef; clear ed
 obtain ⟨gx, eg⟩ := gv
 refine ck ef 84 #[pt a 0] ?_
 obtain ⟨a8, gy, eh⟩ := hxq eg; clear eg
 have d := gblen_fun bA gx a d9 ea _ _ _ _ _ _ ad (bX.perm (pk 1 rfl)) bX.fz; rw [gy] at d; refine d.mono ?_; clear d; rintro _ gz ⟨bY, bZ, ei, rfl, y, af, hm⟩; refine ⟨_, rfl, ?_⟩; intro hS ej; have ek := hm; clear hm bX ef
 replace ai := ai.mono y
 replace aj := aj.mono y
 replace ak := ak.mono y
 replace al := al.mono y
 replace am := am.mono y
 replace an := an.mono y
 replace ao := ao.mono y
 replace ap := ap.mono y
 replace aq := aq.mono y
 replace ar := ar.mono y
 replace au := au.mono y
 replace av := av.mono y
 replace aw := aw.mono y
 replace ax := ax.mono y
 replace ay := ay.mono y
 replace az := az.mono y
 replace aA := aA.mono y
 replace ae := ae.mono y
 replace aa := aa.mono y
 replace ad := ad.mono y
 replace h := h.mono y
 replace c := Fz.le.trans c y
 have bj : Mem w.heap.size [] w Z [.row a [.bool a8.2.neg, .slice bY a8.2.abs.length bZ] 117, .row i [.bool ac.neg, .slice bh ac.abs.length bi] 117, .row q [.bool f.2.neg, .slice O f.2.abs.length P] 117] ei gz := ek; clear ek
 have bB := eh (af.small); clear eh
 refine bt ej bj 2 [] [] [(57, .bool (decide (a8.1 > g)))] ?_; intro hT bC; clear ej
 refine nlH (ee _ _ ?_); clear ee gw
 refine cd bC (t := decide (a8.1 > g)) (by kernel_rfl) (fun b0 => ?_) (fun b0 => ?_)
 · -- yes
  have gA := bB.1 b0; clear bB
  refine wp_skip ?_
  refine thn ?_
  refine wp_block ?_
  refine rgH ?_; intro gB el
  refine bt bC bj 2 [] [] [(58, pt a 0), (59, pt a 0)] ?_; intro hU em; clear bC
  refine nw em bj pb [.bool false, .slice none 0 0] 117 ?_; intro aJ hV hW en bD; clear em bj
  refine bt en bD 2 [] [] [(61, pt i 0), (62, pt a 0)] ?_; intro hX eo; clear en
  obtain ⟨gC, ep⟩ := gA
  refine ck eo 84 #[pt a 0] ?_
  obtain ⟨aB, gD, eq⟩ := hxq ep; clear ep
  have d := gblen_fun a8.2 gC a bY bZ _ _ _ _ _ _ af (bD.perm (pk 1 rfl)) bD.fz; rw [gD] at d; refine d.mono ?_; clear d; rintro _ gE ⟨b1, b2, gF, rfl, u, a9, hm⟩; refine ⟨_, rfl, ?_⟩; intro hY er; have es := hm; clear hm bD eo
  replace ai := ai.mono u
  replace aj := aj.mono u
  replace ak := ak.mono u
  replace al := al.mono u
  replace am := am.mono u
  replace an := an.mono u
  replace ao := ao.mono u
  replace ap := ap.mono u
  replace aq := aq.mono u
  replace ar := ar.mono u
  replace au := au.mono u
  replace av := av.mono u
  replace aw := aw.mono u
  replace ax := ax.mono u
  replace ay := ay.mono u
  replace az := az.mono u
  replace aA := aA.mono u
  replace ae := ae.mono u
  replace aa := aa.mono u
  replace ad := ad.mono u
  replace h := h.mono u
  replace af := af.mono u
  replace c := Fz.le.trans c u
  have bE : Mem w.heap.size [] w Z [.row a [.bool aB.2.neg, .slice b1 aB.2.abs.length b2] 117, .row aJ [.bool false, .slice none 0 0] 117, .row i [.bool ac.neg, .slice bh ac.abs.length bi] 117, .row q [.bool f.2.neg, .slice O f.2.abs.length P] 117] gF gE := es; clear es
  have gG := eq (a9.small); clear eq
  refine bt er bE 4 [] [] [(67, y6 (wu64 (w64 ((w64 (aB.1 - g)) - 1))))] ?_; intro h0 et; clear er
  obtain ⟨gH, eu⟩ := gG
  refine ck et 80 #[pt aJ 0, pt i 0, y6 (wu64 (w64 ((w64 (aB.1 - g)) - 1)))] ?_
  obtain ⟨aC, gI, ev⟩ := hxq eu; clear eu
  have d := glsh_fun (⟨false, []⟩ : BInt) ac (wu64 (w64 ((w64 (aB.1 - g)) - 1))) gH aJ none 0 i bh bi _ _ _ _ _ _ (SlR.nil _ _) aa (bE.perm ((pk 1 rfl).trans (((pk 1 rfl).trans ((List.Perm.refl _).cons _)).cons _))) bE.fz; rw [gI] at d; refine d.mono ?_; clear d; rintro _ gJ ⟨ew, ex, b3, b4, gK, rfl, n, bF, bG, hm⟩; refine ⟨_, rfl, ?_⟩; intro h1 ey; have ez := hm; clear hm bE et
  replace ai := ai.mono n
  replace aj := aj.mono n
  replace ak := ak.mono n
  replace al := al.mono n
  replace am := am.mono n
  replace an := an.mono n
  replace ao := ao.mono n
  replace ap := ap.mono n
  replace aq := aq.mono n
  replace ar := ar.mono n
  replace au := au.mono n
  replace av := av.mono n
  replace aw := aw.mono n
  replace ax := ax.mono n
  replace ay := ay.mono n
  replace az := az.mono n
  replace aA := aA.mono n
  replace ae := ae.mono n
  replace aa := aa.mono n
  replace ad := ad.mono n
  replace h := h.mono n
  replace af := af.mono n
  replace a9 := a9.mono n
  replace c := Fz.le.trans c n
  have b6 : Mem w.heap.size [] w Z [.row aJ [.bool aC.1.neg, .slice ew aC.1.abs.length ex] 117, .row i [.bool aC.2.neg, .slice b3 aC.2.abs.length b4] 117, .row a [.bool aB.2.neg, .slice b1 aB.2.abs.length b2] 117, .row q [.bool f.2.neg, .slice O f.2.abs.length P] 117] gK gJ := ez; clear ez
  have eA := ev (bF.small); clear ev
  have gL := eA (bG.small); clear eA
  obtain ⟨gM, eB⟩ := gL
  refine ck ey 82 #[pt a 0, pt a 0, pt aJ 0] ?_
  obtain ⟨bk, gN, eC⟩ := hxq eB; clear eB
  have d := gxor_fun aB.2 aC.1 gM a b1 b2 aJ ew ex _ _ _ _ _ _ a9 bF (b6.perm ((pk 2 rfl).trans ((List.Perm.refl _).cons _))) b6.fz; rw [gN] at d; refine d.mono ?_; clear d; rintro _ gO ⟨eD, eE, gP, gQ, eF, rfl, j, eG, gR, hm⟩; refine ⟨_, rfl, ?_⟩; intro h2 gS; have eH := hm; clear hm b6 ey
  replace ai := ai.mono j
  replace aj := aj.mono j
  replace ak := ak.mono j
  replace al := al.mono j
  replace am := am.mono j
  replace an := an.mono j
  replace ao := ao.mono j
  replace ap := ap.mono j
  replace aq := aq.mono j
  replace ar := ar.mono j
  replace au := au.mono j
  replace av := av.mono j
  replace aw := aw.mono j
  replace ax := ax.mono j
  replace ay := ay.mono j
  replace az := az.mono j
  replace aA := aA.mono j
  replace ae := ae.mono j
  replace aa := aa.mono j
  replace ad := ad.mono j
  replace h := h.mono j
  replace af := af.mono j
  replace a9 := a9.mono j
  replace bF := bF.mono j
  replace bG := bG.mono j
  replace c := Fz.le.trans c j
  have gT : Mem w.heap.size [] w Z [.row a [.bool bk.1.neg, .slice eD bk.1.abs.length eE] 117, .row aJ [.bool bk.2.neg, .slice gP bk.2.abs.length gQ] 117, .row i [.bool aC.2.neg, .slice b3 aC.2.abs.length b4] 117, .row q [.bool f.2.neg, .slice O f.2.abs.length P] 117] eF gO := eH; clear eH
  have eI := eC (eG.small); clear eC
  have eJ := eI (gR.small); clear eI
  refine nlH (el _ _ ?_); clear el gB
  refine ibn ?_
  refine rd ?_
  have gU := gT.perm ((pk 2 rfl).trans ((((pk 1 rfl).trans ((List.Perm.refl _).cons _)).cons _).cons _))
  exact ⟨⟨aC.2, bk.1, b3, b4, eD, eE, eF⟩, ⟨eJ.1, bG, eG, h⟩, eJ.2, (gS.region (by kernel_rfl) (by kernel_rfl)).anyβ _ (by kernel_rfl), gU.keep (List.Sublist.cons_cons _ (List.Sublist.cons_cons _ (List.Sublist.cons_cons _ (List.Sublist.cons _ (List.Sublist.slnil)))))⟩
 · -- no
  have gV := bB.2 b0; clear bB
  refine wp_exit ?_
  refine thx ?_
  refine thx ?_
  refine ibx ?_
  refine rd ?_
  have gW := bj.perm ((pk 1 rfl).trans ((List.Perm.refl _).cons _))
  exact fX ac a8.2 bh bi bY bZ ei ⟨gV, aa, af, ae⟩ _ _ ((bC.region (by kernel_rfl) (by kernel_rfl)).anyβ _ (by kernel_rfl)) (gW.keep (List.Sublist.cons_cons _ (List.Sublist.cons_cons _ (List.Sublist.cons_cons _ (List.Sublist.slnil)))))

end Go.Proofs.YtmbdcehmeiiaoaaGreatDoor
set_option linter.unusedVariables false
set_option linter.unusedSimpArgs false
namespace Go.Proofs.YtmbdcehmeiiaoaaGreatDoor
open Go.Sy Go.RowKit
theorem rsumof_fun (u0 : Int) (u1 : List UInt8) (hpre : (0 ≤ u0 ∧ u0 < 5) ∧ isRow u1 = true ∧ u1.length ≤ 1000)  (Z : Fz) (w : World) (hg5 : SlR t8 Z (sm 5) 64 deBruijn64) (hZ : Z.on w) : Calls Tryz.prog 49 #[i6 u0, str u1] w fun e w' => e = .returned (str (sumR u0 u1)) ∧ Below w.heap.size w w' :=
  (rsumof_walk u0 u1  Z w hg5 hZ (rsumof_ok u0 u1 hpre)).mono fun _ _ ⟨r, he, hk, hb⟩ => ⟨by subst hk; exact he, hb⟩

end Go.Proofs.YtmbdcehmeiiaoaaGreatDoor
