/- Texts put together (pure ones, or walks made by program). -/
import Derived.Test.YtmnlahbngbigdaaGreatDoorK0
import Derived.Test.YtmnlahbngbigdaaGreatDoorK1
import Derived.Test.YtmnlahbngbigdaaGreatDoorK2
import Derived.Test.YtmnlahbngbigdaaGreatDoorK3
import Derived.Test.YtmnlahbngbigdaaGreatDoorRows
import Derived.Shelf.Lay
import Derived.Ground.NamesProg
import Derived.Shelf.Strings.SlTrimAscii
import Derived.Shelf.Strings.Count
import Derived.Shelf.Strings.Builder1
namespace Go.Proofs
open Go.Shelf
def Tryz.lays160_ren : Go.Shelf.Ren := ⟨fun | 160 => 44 | 232 => 77 | 231 => 76 | 227 => 78 | 234 => 80 | 233 => 79 | 236 => 82 | 235 => 81 | 228 => 98 | 271 => 101 | 151 => 100 | 197 => 99 | 120 => 118 | 152 => 117 | 260 => 116 | 137 => 129 | 119 => 130 | 224 => 105 | 225 => 104 | 217 => 103 | 266 => 120 | n => n, fun | 9 => 9 | 4 => 4 | 3 => 3 | 5 => 5 | 117 => 115 | 116 => 114 | 0 => 0 | 124 => 118 | 21 => 21 | 105 => 141 | 46 => 62 | 119 => 164 | 139 => 167 | 138 => 166 | n => n, fun | 3 => 1 | 4 => 2 | n => n⟩
theorem Tryz.lays160 : Go.Proofs.Lays.n160 Tryz.prog Tryz.lays160_ren := {
  mixed := by kernel_rfl
  f119 := Tryz.func130.trans (congrArg some (by kernel_rfl))
  f120 := Tryz.func118.trans (congrArg some (by kernel_rfl))
  f137 := Tryz.func129.trans (congrArg some (by kernel_rfl))
  f151 := Tryz.func100.trans (congrArg some (by kernel_rfl))
  f152 := Tryz.func117.trans (congrArg some (by kernel_rfl))
  f160 := Tryz.func44.trans (congrArg some (by kernel_rfl))
  f197 := Tryz.func99.trans (congrArg some (by kernel_rfl))
  f217 := Tryz.func103.trans (congrArg some (by kernel_rfl))
  f224 := Tryz.func105.trans (congrArg some (by kernel_rfl))
  f225 := Tryz.func104.trans (congrArg some (by kernel_rfl))
  f227 := Tryz.func78.trans (congrArg some (by kernel_rfl))
  f228 := Tryz.func98.trans (congrArg some (by kernel_rfl))
  f231 := Tryz.func76.trans (congrArg some (by kernel_rfl))
  f232 := Tryz.func77.trans (congrArg some (by kernel_rfl))
  f233 := Tryz.func79.trans (congrArg some (by kernel_rfl))
  f234 := Tryz.func80.trans (congrArg some (by kernel_rfl))
  f235 := Tryz.func81.trans (congrArg some (by kernel_rfl))
  f236 := Tryz.func82.trans (congrArg some (by kernel_rfl))
  f260 := Tryz.func116.trans (congrArg some (by kernel_rfl))
  f266 := Tryz.func120.trans (congrArg some (by kernel_rfl))
  f271 := Tryz.func101.trans (congrArg some (by kernel_rfl))
  t0 := Tryz.underlying0
  a0 := Tryz.isAgg0
  z0 := Tryz.sizeOf0
  v0 := Tryz.zeroValue0
  t3 := Tryz.underlying3
  a3 := Tryz.isAgg3
  z3 := Tryz.sizeOf3
  v3 := Tryz.zeroValue3
  t4 := Tryz.underlying4
  a4 := Tryz.isAgg4
  z4 := Tryz.sizeOf4
  v4 := Tryz.zeroValue4
  t5 := Tryz.underlying5
  a5 := Tryz.isAgg5
  z5 := Tryz.sizeOf5
  v5 := Tryz.zeroValue5
  t9 := Tryz.underlying9
  a9 := Tryz.isAgg9
  z9 := Tryz.sizeOf9
  v9 := Tryz.zeroValue9
  t21 := Tryz.underlying21
  a21 := Tryz.isAgg21
  z21 := Tryz.sizeOf21
  v21 := Tryz.zeroValue21
  t46 := Tryz.underlying62
  a46 := Tryz.isAgg62
  z46 := Tryz.sizeOf62
  v46 := Tryz.zeroValue62
  t105 := Tryz.underlying141
  a105 := Tryz.isAgg141
  z105 := Tryz.sizeOf141
  v105 := Tryz.zeroValue141
  t116 := Tryz.underlying114
  a116 := Tryz.isAgg114
  z116 := Tryz.sizeOf114
  t117 := Tryz.underlying115
  a117 := Tryz.isAgg115
  z117 := Tryz.sizeOf115
  v117 := Tryz.zeroValue115
  t119 := Tryz.underlying164
  a119 := Tryz.isAgg164
  z119 := Tryz.sizeOf164
  t124 := Tryz.underlying118
  a124 := Tryz.isAgg118
  z124 := Tryz.sizeOf118
  v124 := Tryz.zeroValue118
  t138 := Tryz.underlying166
  a138 := Tryz.isAgg166
  z138 := Tryz.sizeOf166
  v138 := Tryz.zeroValue166
  t139 := Tryz.underlying167
  a139 := Tryz.isAgg167
  z139 := Tryz.sizeOf167
  v139 := Tryz.zeroValue167
  g3 := by kernel_rfl
  g4 := by kernel_rfl }
def Tryz.lays138_ren : Go.Shelf.Ren := ⟨fun | 138 => 27 | 195 => 58 | 218 => 59 | 143 => 60 | 219 => 86 | 217 => 103 | 225 => 104 | 224 => 105 | 267 => 106 | 266 => 120 | 314 => 121 | n => n, fun | 9 => 9 | 3 => 3 | 4 => 4 | 5 => 5 | 0 => 0 | 46 => 62 | 146 => 154 | 51 => 133 | n => n, fun | 1 => 0 | n => n⟩
theorem Tryz.lays138 : Go.Proofs.Lays.n138 Tryz.prog Tryz.lays138_ren := {
  mixed := by kernel_rfl
  f138 := Tryz.func27.trans (congrArg some (by kernel_rfl))
  f143 := Tryz.func60.trans (congrArg some (by kernel_rfl))
  f195 := Tryz.func58.trans (congrArg some (by kernel_rfl))
  f217 := Tryz.func103.trans (congrArg some (by kernel_rfl))
  f218 := Tryz.func59.trans (congrArg some (by kernel_rfl))
  f219 := Tryz.func86.trans (congrArg some (by kernel_rfl))
  f224 := Tryz.func105.trans (congrArg some (by kernel_rfl))
  f225 := Tryz.func104.trans (congrArg some (by kernel_rfl))
  f266 := Tryz.func120.trans (congrArg some (by kernel_rfl))
  f267 := Tryz.func106.trans (congrArg some (by kernel_rfl))
  f314 := Tryz.func121.trans (congrArg some (by kernel_rfl))
  t0 := Tryz.underlying0
  a0 := Tryz.isAgg0
  z0 := Tryz.sizeOf0
  v0 := Tryz.zeroValue0
  t3 := Tryz.underlying3
  a3 := Tryz.isAgg3
  z3 := Tryz.sizeOf3
  v3 := Tryz.zeroValue3
  t4 := Tryz.underlying4
  a4 := Tryz.isAgg4
  z4 := Tryz.sizeOf4
  v4 := Tryz.zeroValue4
  t5 := Tryz.underlying5
  a5 := Tryz.isAgg5
  z5 := Tryz.sizeOf5
  v5 := Tryz.zeroValue5
  t9 := Tryz.underlying9
  a9 := Tryz.isAgg9
  z9 := Tryz.sizeOf9
  v9 := Tryz.zeroValue9
  t46 := Tryz.underlying62
  a46 := Tryz.isAgg62
  z46 := Tryz.sizeOf62
  v46 := Tryz.zeroValue62
  t51 := Tryz.underlying133
  a51 := Tryz.isAgg133
  z51 := Tryz.sizeOf133
  v51 := Tryz.zeroValue133
  t146 := Tryz.underlying154
  a146 := Tryz.isAgg154
  z146 := Tryz.sizeOf154
  v146 := Tryz.zeroValue154
  g1 := by kernel_rfl }
end Go.Proofs
set_option linter.unusedVariables false
set_option linter.unusedSimpArgs false
namespace Go.Proofs.YtmnlahbngbigdaaGreatDoor
open Go.Sy Go.RowKit
theorem mixed : Tryz.prog.follows .mixedOrders = true := by kernel_rfl
theorem rdFrame : Rd Tryz.prog 24 tyFrame okFrame := by
 refine ⟨fun enc w fuel cs x h hw => ?_⟩
 have hu : Tryz.prog.underlying 24 = some (.struct _) := Tryz.underlying24
 have hl := rd_len hu h (m := 6) (by kernel_rfl)
 obtain ⟨j, o, p⟩ := rd_field hu h hw 0 rfl (rd_int (P := Tryz.prog) (t := 3) (k := .i64) (by kernel_rfl)) (m := 1) (by kernel_rfl) (off := 0) rfl
 have q : (cs.drop 0).take 1 = [i6 j] := o
 obtain ⟨i, r, s⟩ := rd_field hu h hw 1 rfl (rd_bool (P := Tryz.prog) (t := 4) (by kernel_rfl)) (m := 1) (by kernel_rfl) (off := 1) rfl
 have u : (cs.drop 1).take 1 = [.bool i] := r
 obtain ⟨g, v, y⟩ := rd_field hu h hw 2 rfl (rd_bool (P := Tryz.prog) (t := 4) (by kernel_rfl)) (m := 1) (by kernel_rfl) (off := 2) rfl
 have A : (cs.drop 2).take 1 = [.bool g] := v
 obtain ⟨f, B, C⟩ := rd_field hu h hw 3 rfl (rd_bool (P := Tryz.prog) (t := 4) (by kernel_rfl)) (m := 1) (by kernel_rfl) (off := 3) rfl
 have D : (cs.drop 3).take 1 = [.bool f] := B
 obtain ⟨d, E, F⟩ := rd_field hu h hw 4 rfl (rd_int (P := Tryz.prog) (t := 3) (k := .i64) (by kernel_rfl)) (m := 1) (by kernel_rfl) (off := 4) rfl
 have G : (cs.drop 4).take 1 = [i6 d] := E
 obtain ⟨a, l, H⟩ := rd_field hu h hw 5 rfl (rd_slice (P := Tryz.prog) (t := 22) (e := 5) (bytes := 1) (by kernel_rfl) (rd_int (P := Tryz.prog) (t := 5) (k := .u8) (by kernel_rfl))) (m := 1) (by kernel_rfl) (off := 5) rfl
 obtain ⟨b, c, l, I⟩ := l
 have J : (cs.drop 5).take 1 = [.slice b a.length c] := l
 have z : cs.drop 6 = [] := List.drop_eq_nil_of_le (by omega)
 have K : cs.drop 5 = [.slice b a.length c] := by rw [show cs.drop 5 = (cs.drop 5).take 1 ++ cs.drop 6 from cut_at cs 5 1, J, z]; rfl
 have L : cs.drop 4 = [i6 d, .slice b a.length c] := by rw [show cs.drop 4 = (cs.drop 4).take 1 ++ cs.drop 5 from cut_at cs 4 1, G, K]; rfl
 have M : cs.drop 3 = [.bool f, i6 d, .slice b a.length c] := by rw [show cs.drop 3 = (cs.drop 3).take 1 ++ cs.drop 4 from cut_at cs 3 1, D, L]; rfl
 have N : cs.drop 2 = [.bool g, .bool f, i6 d, .slice b a.length c] := by rw [show cs.drop 2 = (cs.drop 2).take 1 ++ cs.drop 3 from cut_at cs 2 1, A, M]; rfl
 have O : cs.drop 1 = [.bool i, .bool g, .bool f, i6 d, .slice b a.length c] := by rw [show cs.drop 1 = (cs.drop 1).take 1 ++ cs.drop 2 from cut_at cs 1 1, u, N]; rfl
 have n : cs.drop 0 = [i6 j, .bool i, .bool g, .bool f, i6 d, .slice b a.length c] := by rw [show cs.drop 0 = (cs.drop 0).take 1 ++ cs.drop 1 from cut_at cs 0 1, q, O]; rfl
 refine ⟨⟨j, i, g, f, d, a⟩, ?_, p, s, y, C, F, H⟩
 rw [List.drop_zero] at n
 exact ⟨b, c, n, I⟩
theorem rdKind : Rd Tryz.prog 83 tyKind okKind := by
 refine ⟨fun enc w fuel cs x h hw => ?_⟩
 have hu : Tryz.prog.underlying 83 = some (.struct _) := Tryz.underlying83
 have hl := rd_len hu h (m := 4) (by kernel_rfl)
 obtain ⟨d, f, g⟩ := rd_field hu h hw 0 rfl (rd_int (P := Tryz.prog) (t := 3) (k := .i64) (by kernel_rfl)) (m := 1) (by kernel_rfl) (off := 0) rfl
 have i : (cs.drop 0).take 1 = [i6 d] := f
 obtain ⟨c, j, l⟩ := rd_field hu h hw 1 rfl (rd_int (P := Tryz.prog) (t := 74) (k := .u64) (by kernel_rfl)) (m := 1) (by kernel_rfl) (off := 1) rfl
 have n : (cs.drop 1).take 1 = [y6 c] := j
 obtain ⟨b, o, p⟩ := rd_field hu h hw 2 rfl (rd_int (P := Tryz.prog) (t := 74) (k := .u64) (by kernel_rfl)) (m := 1) (by kernel_rfl) (off := 2) rfl
 have q : (cs.drop 2).take 1 = [y6 b] := o
 obtain ⟨a, r, s⟩ := rd_field hu h hw 3 rfl (rd_int (P := Tryz.prog) (t := 74) (k := .u64) (by kernel_rfl)) (m := 1) (by kernel_rfl) (off := 3) rfl
 have u : (cs.drop 3).take 1 = [y6 a] := r
 have z : cs.drop 4 = [] := List.drop_eq_nil_of_le (by omega)
 have v : cs.drop 3 = [y6 a] := by rw [show cs.drop 3 = (cs.drop 3).take 1 ++ cs.drop 4 from cut_at cs 3 1, u, z]; rfl
 have y : cs.drop 2 = [y6 b, y6 a] := by rw [show cs.drop 2 = (cs.drop 2).take 1 ++ cs.drop 3 from cut_at cs 2 1, q, v]; rfl
 have A : cs.drop 1 = [y6 c, y6 b, y6 a] := by rw [show cs.drop 1 = (cs.drop 1).take 1 ++ cs.drop 2 from cut_at cs 1 1, n, y]; rfl
 have e : cs.drop 0 = [i6 d, y6 c, y6 b, y6 a] := by rw [show cs.drop 0 = (cs.drop 0).take 1 ++ cs.drop 1 from cut_at cs 0 1, i, A]; rfl
 refine ⟨⟨d, c, b, a⟩, ?_, g, l, p, s⟩
 rw [List.drop_zero] at e
 exact e
theorem rdCounter : Rd Tryz.prog 42 tyCounter okCounter := by
 refine ⟨fun enc w fuel cs x h hw => ?_⟩
 have hu : Tryz.prog.underlying 42 = some (.struct _) := Tryz.underlying42
 have hl := rd_len hu h (m := 2) (by kernel_rfl)
 obtain ⟨b, d, e⟩ := rd_field hu h hw 0 rfl (rd_int (P := Tryz.prog) (t := 5) (k := .u8) (by kernel_rfl)) (m := 1) (by kernel_rfl) (off := 0) rfl
 have f : (cs.drop 0).take 1 = [y8 b] := d
 obtain ⟨a, g, i⟩ := rd_field hu h hw 1 rfl (rd_int (P := Tryz.prog) (t := 3) (k := .i64) (by kernel_rfl)) (m := 1) (by kernel_rfl) (off := 1) rfl
 have j : (cs.drop 1).take 1 = [i6 a] := g
 have z : cs.drop 2 = [] := List.drop_eq_nil_of_le (by omega)
 have l : cs.drop 1 = [i6 a] := by rw [show cs.drop 1 = (cs.drop 1).take 1 ++ cs.drop 2 from cut_at cs 1 1, j, z]; rfl
 have c : cs.drop 0 = [y8 b, i6 a] := by rw [show cs.drop 0 = (cs.drop 0).take 1 ++ cs.drop 1 from cut_at cs 0 1, f, l]; rfl
 refine ⟨⟨b, a⟩, ?_, e, i⟩
 rw [List.drop_zero] at c
 exact c
theorem rdReader : Rd Tryz.prog 44 tyReader okReader := by
 refine ⟨fun enc w fuel cs x h hw => ?_⟩
 have hu : Tryz.prog.underlying 44 = some (.struct _) := Tryz.underlying44
 have hl := rd_len hu h (m := 5) (by kernel_rfl)
 obtain ⟨d, f, g⟩ := rd_field hu h hw 0 rfl (rd_str (P := Tryz.prog) (t := 9) (by kernel_rfl)) (m := 1) (by kernel_rfl) (off := 0) rfl
 have i : (cs.drop 0).take 1 = [str d] := f
 obtain ⟨c, j, l⟩ := rd_field hu h hw 1 rfl (rd_int (P := Tryz.prog) (t := 3) (k := .i64) (by kernel_rfl)) (m := 1) (by kernel_rfl) (off := 1) rfl
 have o : (cs.drop 1).take 1 = [i6 c] := j
 obtain ⟨b, p, q⟩ := rd_field hu h hw 2 rfl (rd_int (P := Tryz.prog) (t := 25) (k := .i64) (by kernel_rfl)) (m := 1) (by kernel_rfl) (off := 2) rfl
 have r : (cs.drop 2).take 1 = [i6 b] := p
 obtain ⟨a, s, u⟩ := rd_field hu h hw 3 rfl rdCounter (m := 2) (by kernel_rfl) (off := 3) rfl
 have v : (cs.drop 3).take 2 = [y8 a.last, i6 a.n] := s
 have z : cs.drop 5 = [] := List.drop_eq_nil_of_le (by omega)
 have y : cs.drop 3 = [y8 a.last, i6 a.n] := by rw [show cs.drop 3 = (cs.drop 3).take 2 ++ cs.drop 5 from cut_at cs 3 2, v, z]; rfl
 have A : cs.drop 2 = [i6 b, y8 a.last, i6 a.n] := by rw [show cs.drop 2 = (cs.drop 2).take 1 ++ cs.drop 3 from cut_at cs 2 1, r, y]; rfl
 have B : cs.drop 1 = [i6 c, i6 b, y8 a.last, i6 a.n] := by rw [show cs.drop 1 = (cs.drop 1).take 1 ++ cs.drop 2 from cut_at cs 1 1, o, A]; rfl
 have e : cs.drop 0 = [str d, i6 c, i6 b, y8 a.last, i6 a.n] := by rw [show cs.drop 0 = (cs.drop 0).take 1 ++ cs.drop 1 from cut_at cs 0 1, i, B]; rfl
 refine ⟨⟨d, c, b, a⟩, ?_, g, l, q, u⟩
 rw [List.drop_zero] at e
 exact e
theorem rdFReader : Rd Tryz.prog 46 tyFReader okFReader := by
 refine ⟨fun enc w fuel cs x h hw => ?_⟩
 have hu : Tryz.prog.underlying 46 = some (.struct _) := Tryz.underlying46
 have hl := rd_len hu h (m := 11) (by kernel_rfl)
 obtain ⟨b, i, j⟩ := rd_field hu h hw 0 rfl rdReader (m := 5) (by kernel_rfl) (off := 0) rfl
 have k : (cs.drop 0).take 5 = [str b.Row, i6 b.At, i6 b.Code, y8 b.c.last, i6 b.c.n] := i
 obtain ⟨a, f, l⟩ := rd_field hu h hw 1 rfl rdFrame (m := 6) (by kernel_rfl) (off := 5) rfl
 obtain ⟨d, e, f, o⟩ := f
 have p : (cs.drop 5).take 6 = [i6 a.ID, .bool a.Long, .bool a.Fast, .bool a.Remote, i6 a.Size, .slice d a.Data.length e] := f
 have z : cs.drop 11 = [] := List.drop_eq_nil_of_le (by omega)
 have q : cs.drop 5 = [i6 a.ID, .bool a.Long, .bool a.Fast, .bool a.Remote, i6 a.Size, .slice d a.Data.length e] := by rw [show cs.drop 5 = (cs.drop 5).take 6 ++ cs.drop 11 from cut_at cs 5 6, p, z]; rfl
 have g : cs.drop 0 = [str b.Row, i6 b.At, i6 b.Code, y8 b.c.last, i6 b.c.n, i6 a.ID, .bool a.Long, .bool a.Fast, .bool a.Remote, i6 a.Size, .slice d a.Data.length e] := by rw [show cs.drop 0 = (cs.drop 0).take 5 ++ cs.drop 5 from cut_at cs 0 5, k, q]; rfl
 refine ⟨⟨b, a⟩, ?_, j, l⟩
 rw [List.drop_zero] at g
 exact ⟨d, e, g, o⟩
theorem rdSender : Rd Tryz.prog 111 tySender okSender := by
 refine ⟨fun enc w fuel cs x h hw => ?_⟩
 have hu : Tryz.prog.underlying 111 = some (.struct _) := Tryz.underlying111
 have hl := rd_len hu h (m := 2) (by kernel_rfl)
 obtain ⟨b, d, e⟩ := rd_field hu h hw 0 rfl (rd_str (P := Tryz.prog) (t := 9) (by kernel_rfl)) (m := 1) (by kernel_rfl) (off := 0) rfl
 have f : (cs.drop 0).take 1 = [str b] := d
 obtain ⟨a, g, i⟩ := rd_field hu h hw 1 rfl (rd_int (P := Tryz.prog) (t := 3) (k := .i64) (by kernel_rfl)) (m := 1) (by kernel_rfl) (off := 1) rfl
 have j : (cs.drop 1).take 1 = [i6 a] := g
 have z : cs.drop 2 = [] := List.drop_eq_nil_of_le (by omega)
 have l : cs.drop 1 = [i6 a] := by rw [show cs.drop 1 = (cs.drop 1).take 1 ++ cs.drop 2 from cut_at cs 1 1, j, z]; rfl
 have c : cs.drop 0 = [str b, i6 a] := by rw [show cs.drop 0 = (cs.drop 0).take 1 ++ cs.drop 1 from cut_at cs 0 1, f, l]; rfl
 refine ⟨⟨b, a⟩, ?_, e, i⟩
 rw [List.drop_zero] at c
 exact c
theorem trim_fun (u0 : List UInt8) (u1 : List UInt8) (hpre : u0.length ≤ 9223372036854775807 ∧ u1.length < 4294967281 ∧ u1.all (fun b => decide (b.toNat < 128)) = true) (Z : Fz) (w : World) (hZ : Z.on w) : Calls Tryz.prog 44 #[str u0, str u1] w fun e w' => e = .returned (str (trimS u0 u1)) ∧ Below w.heap.size w w' := by
 have h := Any.strings_Trim_laid Tryz.lays160 (by kernel_rfl) ⟨⟨u0⟩⟩ ⟨⟨u1⟩⟩ w (by show u0.length ≤ _; exact hpre.1) (by show u1.length < _; exact hpre.2.1) (ascii_of_all hpre.2.2)
 exact h
theorem count1_fun (u0 : List UInt8) (u1 : List UInt8) (hpre : u1.length = 1) (Z : Fz) (w : World) (hZ : Z.on w) : Calls Tryz.prog 27 #[str u0, str u1] w fun e w' => e = .returned (i6 (count1S u0 u1)) ∧ Below w.heap.size w w' := by
 obtain ⟨c, rfl⟩ : ∃ c, u1 = [c] := by
  match u1, hpre with
  | [c], _ => exact ⟨c, rfl⟩
 exact (Any.strings_Count_one Tryz.lays138 ⟨⟨u0⟩⟩ c w).mono fun _ _ ⟨h1, h2⟩ => ⟨h1, h2 ▸ Below.refl _ _⟩
end Go.Proofs.YtmnlahbngbigdaaGreatDoor
namespace Go.Sy
open Go.Proofs Go.Shelf Go.RowKit
variable {P : Program} {ρ : Ren} {B b : Nat} {w0 : World} {Z : Fz} {w w' : World} {T e : TypeId} {ao : Option Addr} {cap : Nat} {p : Value}
theorem repBytes {Z : Fz} {cells : List Value} {xs : List UInt8} (h : RepAll tyByte Z cells xs) : cells = Lib.byteCells xs := by
 have hl : cells.length = xs.length * 1 := h.1
 apply List.ext_getElem?
 intro i
 unfold Lib.byteCells
 rw [List.getElem?_map]
 rcases Nat.lt_or_ge i xs.length with hi | hi
 · have hx : xs[i]? = some xs[i] := List.getElem?_eq_getElem hi
   have hr : ((cells.drop (i * 1)).take 1) = [.int .u8 (xs[i].toNat : Int)] := h.2 i _ hx
   rw [hx, Nat.mul_one] at *
   have := congrArg (fun l => l[0]?) hr
   simpa using this
 · rw [List.getElem?_eq_none (by omega), List.getElem?_eq_none hi]
   rfl
theorem bytesRep (Z : Fz) (xs : List UInt8) : RepAll tyByte Z (Lib.byteCells xs) xs := by
 refine ⟨by simp [Lib.byteCells, tyByte], fun i x hx => ?_⟩
 show ((Lib.byteCells xs).drop (i * 1)).take 1 = [.int .u8 (x.toNat : Int)]
 have hi := (List.getElem?_eq_some_iff.1 hx).1
 unfold Lib.byteCells
 rw [Nat.mul_one, List.drop_eq_getElem_cons (by simpa using hi)]
 have hx2 : xs[i] = x := (List.getElem?_eq_some_iff.1 hx).2
 simp [hx2]
abbrev BldR (b : Nat) (p : Value) (T e : TypeId) (ao : Option Addr) (cap : Nat) (xs : List UInt8) : List Res := [.row b [p, .slice ao xs.length cap] T, .own tyByte e ao cap xs]
theorem bld_is {xs : List UInt8} (hM : Mem B [] w0 Z (BldR b p T e ao cap xs) Z w) (hp : p = .pointer none ∨ p = .pointer (some ⟨b, 0, none⟩)) : Lib.IsBuilder T e B b (Lib.byteCells xs) w := by
 have h1 := hM.res (.row b [p, .slice ao xs.length cap] T) (by simp)
 have h2 := hM.res (.own tyByte e ao cap xs) (by simp)
 obtain ⟨_, _, cells, ho, hr⟩ := h2
 have hc := repBytes hr
 subst hc
 have hl : (Lib.byteCells xs).length = xs.length := Lib.byteCells_length xs
 have hB : B ≤ b := h1.1.elim id (by simp)
 have hn : (Value.slice ao xs.length cap).ownBlock ≠ some b := by
  have hnd := (List.pairwise_cons.1 hM.nd).1 (.own tyByte e ao cap xs) (by simp) b rfl
  cases ao with
  | none => simp [Value.ownBlock]
  | some ad => simpa [Value.ownBlock, Res.foot] using hnd
 have hA : Lib.BuilderAt T e B b p (Lib.byteCells xs) w := ⟨hB, _, h1.2, by rw [hl]; exact ho, hn⟩
 rcases hp with rfl | rfl
 · exact .inl hA
 · exact .inr hA
theorem bld_back {R : List Res} {ys : List UInt8} (hM : Mem B [] w0 Z R Z w) (hZB : ∀ k o, Z k = some o → k < B) (hA : Lib.BuilderAt T e B b (.pointer (some ⟨b, 0, none⟩)) (Lib.byteCells ys) w') (hb : Below B w w') (hl : ys.length ≤ lim) : ∃ ao cap, Mem B [] w0 Z (BldR b (.pointer (some ⟨b, 0, none⟩)) T e ao cap ys) Z w' := by
 obtain ⟨hBb, v, hv, ho, hne⟩ := hA
 rw [Lib.byteCells_length] at ho
 have hshape : ∃ ao cap, v = .slice ao ys.length cap := by
  rcases ho.2 with ⟨e1, e2⟩ | ⟨g, c, cur, e1, _⟩
  · exact ⟨none, 0, by rw [e1, e2]⟩
  · exact ⟨_, c, e1⟩
 obtain ⟨ao, cap, rfl⟩ := hshape
 have hsz := hb.size
 have hbase : B ≤ w'.heap.size := Nat.le_trans hM.base hsz
 have hfb : ∀ k, (Res.own tyByte e ao cap ys).foot = some k → B ≤ k ∧ k ≠ b := by
  intro k hk
  cases ao with
  | none => simp [Res.foot] at hk
  | some ad =>
   simp only [Res.foot, Option.map_some, Option.some.injEq] at hk
   subst hk
   refine ⟨(World.ownsRow.lt ho ad.block rfl).1, fun hc => hne ?_⟩
   rw [← hc]
   rfl
 refine ⟨ao, cap, ⟨hM.kept.os ▸ hb.os, hM.kept.tape ▸ hb.tape, hM.kept.output ▸ hb.output, Nat.le_trans hM.kept.size hsz, fun k hk hU => (hb.block k hk).trans (hM.kept.block k hk hU)⟩, hbase, ?_, ?_, fun k o hk => by rw [hb.block k (hZB k o hk)]; exact hM.fz k o hk, hM.ext, ?_⟩
 · intro r hr
   rcases List.mem_cons.1 hr with rfl | hr
   · exact ⟨.inl hBb, hv⟩
   · rcases List.mem_cons.1 hr with rfl | hr
     · exact ⟨Nat.one_pos, hl, _, ho, bytesRep Z ys⟩
     · cases hr
 · refine List.Pairwise.cons (fun s hs k hk hc => ?_) (List.Pairwise.cons (by simp) List.Pairwise.nil)
   simp only [List.mem_cons, List.not_mem_nil, or_false] at hs
   subst hs
   have hkb : k = b := by simpa [Res.foot, eq_comm] using hk
   exact (hfb k hc).2 hkb
 · intro r hr k hk
   have hBk : B ≤ k := by
    rcases List.mem_cons.1 hr with rfl | hr
    · have : k = b := by simpa [Res.foot, eq_comm] using hk
      omega
    · rcases List.mem_cons.1 hr with rfl | hr
      · exact (hfb k hk).1
      · cases hr
   cases hz : Z k with
   | none => rfl
   | some o => have := hZB k o hz; omega
theorem Mem.bldNil (hM : Mem B [] w0 Z [.row b [p, .slice none 0 0] T] Z w) (e : TypeId) : Mem B [] w0 Z (BldR b p T e none 0 []) Z w :=
 ((hM.addNil tyByte e Nat.one_pos).perm (List.Perm.swap _ _ _))
theorem bld_write (L : Lays.n166 P ρ) (X : Builder.Extra P ρ) {xs s : List UInt8} (hM : Mem B [] w0 Z (BldR b p (ρ.t 72) (ρ.t 5) ao cap xs) Z w) (hZB : ∀ k o, Z k = some o → k < B) (hp : p = .pointer none ∨ p = .pointer (some ⟨b, 0, none⟩)) (hl : xs.length + s.length ≤ 140737488355328) : Calls P (ρ.f 166) #[.pointer (some ⟨b, 0, none⟩), str s] w fun e w' => ∃ ao' cap', e = .returned (.tuple #[.int .i64 (s.length : Int), .nilIface]) ∧ Mem B [] w0 Z (BldR b (.pointer (some ⟨b, 0, none⟩)) (ρ.t 72) (ρ.t 5) ao' cap' (xs ++ s)) Z w' := by
 refine (Any.Builder_WriteString L X B b _ ⟨⟨s⟩⟩ w (bld_is hM hp) (by rw [Lib.byteCells_length]; exact hl) hM.base).mono fun e1 w1 ⟨he, hA, hb⟩ => ?_
 have e2 : Lib.byteCells xs ++ Lib.strCells ⟨⟨s⟩⟩ = Lib.byteCells (xs ++ s) := by simp [Lib.byteCells, Lib.strCells]
 rw [e2] at hA
 obtain ⟨ao', cap', h⟩ := bld_back hM hZB hA hb (by rw [List.length_append]; exact hl)
 exact ⟨ao', cap', he, h⟩
theorem bld_string (L : Lays.n169 P ρ) (X : Builder.Extra P ρ) {xs : List UInt8} (hM : Mem B [] w0 Z (BldR b p (ρ.t 72) (ρ.t 5) ao cap xs) Z w) (hZB : ∀ k o, Z k = some o → k < B) (hp : p = .pointer none ∨ p = .pointer (some ⟨b, 0, none⟩)) : Calls P (ρ.f 169) #[.pointer (some ⟨b, 0, none⟩)] w fun e w' => e = .returned (str xs) ∧ Mem B [] w0 Z [] Z w' := by
 refine (Any.Builder_String_any L X B b xs w (bld_is hM hp) hM.base).mono fun e1 w1 ⟨he, hb⟩ => ⟨he, ?_⟩
 exact ⟨⟨hM.kept.os ▸ hb.os, hM.kept.tape ▸ hb.tape, hM.kept.output ▸ hb.output, Nat.le_trans hM.kept.size hb.size, fun k hk hU => (hb.block k hk).trans (hM.kept.block k hk hU)⟩, Nat.le_trans hM.base hb.size, by simp, List.Pairwise.nil, fun k o hk => by rw [hb.block k (hZB k o hk)]; exact hM.fz k o hk, hM.ext, by simp⟩
theorem zB {w : World} (h : Z.on w) : ∀ k o, Z k = some o → k < w.heap.size := fun k o hk => lt_of_get (h k o hk)
end Go.Sy
namespace Go.Proofs
open Go.Shelf
def Tryz.lays166_ren : Go.Shelf.Ren := ⟨fun | 166 => 84 | 240 => 102 | 276 => 119 | n => n, fun | 37 => 22 | 70 => 121 | 72 => 123 | 75 => 125 | 80 => 60 | 164 => 152 | n => n, fun n => n⟩
theorem Tryz.lays166 : Lays.n166 Tryz.prog Tryz.lays166_ren := {
 mixed := by kernel_rfl
 f166 := Tryz.func84.trans (congrArg some (by kernel_rfl))
 f240 := Tryz.func102.trans (congrArg some (by kernel_rfl))
 f276 := Tryz.func119.trans (congrArg some (by kernel_rfl))
 t0 := Tryz.underlying0
 a0 := Tryz.isAgg0
 z0 := Tryz.sizeOf0
 v0 := Tryz.zeroValue0
 t3 := Tryz.underlying3
 a3 := Tryz.isAgg3
 z3 := Tryz.sizeOf3
 v3 := Tryz.zeroValue3
 t4 := Tryz.underlying4
 a4 := Tryz.isAgg4
 z4 := Tryz.sizeOf4
 v4 := Tryz.zeroValue4
 t9 := Tryz.underlying9
 a9 := Tryz.isAgg9
 z9 := Tryz.sizeOf9
 v9 := Tryz.zeroValue9
 t20 := Tryz.underlying20
 a20 := Tryz.isAgg20
 z20 := Tryz.sizeOf20
 v20 := Tryz.zeroValue20
 t37 := Tryz.underlying22
 a37 := Tryz.isAgg22
 z37 := Tryz.sizeOf22
 v37 := Tryz.zeroValue22
 t70 := Tryz.underlying121
 a70 := Tryz.isAgg121
 z70 := Tryz.sizeOf121
 v70 := Tryz.zeroValue121
 t72 := Tryz.underlying123
 a72 := Tryz.isAgg123
 z72 := Tryz.sizeOf123
 v72 := Tryz.zeroValue123
 t75 := Tryz.underlying125
 a75 := Tryz.isAgg125
 z75 := Tryz.sizeOf125
 v75 := Tryz.zeroValue125
 t164 := Tryz.underlying152
 a164 := Tryz.isAgg152
 z164 := Tryz.sizeOf152
 v164 := Tryz.zeroValue152 }
theorem Tryz.lays166X : Builder.Extra Tryz.prog Tryz.lays166_ren := {
 sizeBuilder := by kernel_rfl
 liesBuilder := by kernel_rfl
 t5 := by kernel_rfl
 a5 := fun w => by kernel_rfl
 z5 := fun w => by kernel_rfl
 v5 := fun w => by kernel_rfl
 infoByte := by kernel_rfl
 cellsByte := by kernel_rfl
 sizeByte := by kernel_rfl
 neB5 := by decide }
def Tryz.lays169_ren : Go.Shelf.Ren := ⟨fun | 169 => 85 | n => n, fun | 37 => 22 | 70 => 121 | 72 => 123 | 127 => 144 | n => n, fun n => n⟩
theorem Tryz.lays169 : Lays.n169 Tryz.prog Tryz.lays169_ren := {
 mixed := by kernel_rfl
 f169 := Tryz.func85.trans (congrArg some (by kernel_rfl))
 t0 := Tryz.underlying0
 a0 := Tryz.isAgg0
 z0 := Tryz.sizeOf0
 v0 := Tryz.zeroValue0
 t3 := Tryz.underlying3
 a3 := Tryz.isAgg3
 z3 := Tryz.sizeOf3
 v3 := Tryz.zeroValue3
 t9 := Tryz.underlying9
 a9 := Tryz.isAgg9
 z9 := Tryz.sizeOf9
 v9 := Tryz.zeroValue9
 t37 := Tryz.underlying22
 a37 := Tryz.isAgg22
 z37 := Tryz.sizeOf22
 v37 := Tryz.zeroValue22
 t70 := Tryz.underlying121
 a70 := Tryz.isAgg121
 z70 := Tryz.sizeOf121
 v70 := Tryz.zeroValue121
 t72 := Tryz.underlying123
 a72 := Tryz.isAgg123
 z72 := Tryz.sizeOf123
 v72 := Tryz.zeroValue123
 t127 := Tryz.underlying144
 a127 := Tryz.isAgg144
 z127 := Tryz.sizeOf144
 v127 := Tryz.zeroValue144 }
theorem Tryz.lays169X : Builder.Extra Tryz.prog Tryz.lays169_ren := {
 sizeBuilder := by kernel_rfl
 liesBuilder := by kernel_rfl
 t5 := by kernel_rfl
 a5 := fun w => by kernel_rfl
 z5 := fun w => by kernel_rfl
 v5 := fun w => by kernel_rfl
 infoByte := by kernel_rfl
 cellsByte := by kernel_rfl
 sizeByte := by kernel_rfl
 neB5 := by decide }
end Go.Proofs
set_option linter.unusedVariables false
set_option linter.unusedSimpArgs false
set_option linter.defProp false
set_option maxRecDepth 100000
set_option maxHeartbeats 0
namespace Go.Proofs.YtmnlahbngbigdaaGreatDoor
open Go.Sy Go.RowKit
abbrev e46A (X : FReader) (A0 : Option Addr) (C0 : Nat) : List Value := [str X.Reader.Row, i6 X.Reader.At, i6 X.Reader.Code, y8 X.Reader.c.last, i6 X.Reader.c.n, i6 X.f.ID, .bool X.f.Long, .bool X.f.Fast, .bool X.f.Remote, i6 X.f.Size, .slice A0 X.f.Data.length C0]
theorem bread_walk (u0 : List UInt8)  (Z : Fz) (w : World)  (hZ : Z.on w) {K : Int → Prop} (hp : bread_vc u0 K) : Calls Tryz.prog 46 #[str u0] w fun e w' => ∃ r : Int, e = .returned (y6 r) ∧ K r ∧ Below w.heap.size w w' := by
 refine enter0 Tryz.func46 rfl rfl (by kernel_rfl) ?_; intro U j; have d := Mem.start w Z hZ
 refine sqB j d [] [] [] ?_; intro W k
 refine sqB k d [] [] [(3, y6 0)] ?_; intro X l
 refine s_ (sqB l d [] [] [(6, i6 (u0.length : Int)), (7, i6 0)] ?_); intro m n
 apply b_
 have o : Fr 20 [] [⟨0, [], str u0⟩, ⟨3, [], y6 0⟩, ⟨6, [], i6 (u0.length : Int)⟩, ⟨7, [], i6 0⟩] m := n.reg
 obtain ⟨F, G, H, I⟩ := hp
 refine lp (ι := Int × Int) (fun s => [⟨0, [], str u0⟩, ⟨3, [], y6 s.1⟩, ⟨6, [], i6 (u0.length : Int)⟩, ⟨7, [], i6 s.2⟩]) (fun s => []) (fun s => Z) (fun s => F s.1 s.2) (fun s => G s.1 s.2) ⟨0, 0⟩ H (by exact o.reg) (by exact d) ?_
 rintro ⟨b, a⟩ J L M u v
 have g := I b a J
 refine sqB u v [] [] [(8, .bool (decide (a < (u0.length : Int))))] ?_; intro Y f
 refine s_ (c_ f g (fun _ N => ?_) fun _ S => ?_)
 ·
  refine k_ (s_ (b_ (sqB f v [] [] [(4, i6 a)] ?_))); intro aa y
  refine rgH ?_; intro O z
  refine bt y v 4 [] [] [(11, y6 (bShl .u64 b 1)), (12, str u0), (13, i6 a)] ?_; intro ab A
  obtain ⟨P, Q⟩ := N
  obtain ⟨i, B⟩ : ∃ q, u0[a.toNat]? = some q := ⟨_, List.getElem?_eq_getElem (by omega)⟩; have C := Q i B
  refine si A .i64 P.1 B ?_; intro ac D
  refine bt D v 4 [] [] [(3, y6 (bOr .u64 (bShl .u64 b 1) (wu64 (w8 ((i.toNat : Int) - 48)))))] ?_; intro ad E
  apply z
  refine j_ (t_ (rgB E v [] [] [(7, i6 (w64 (a + 1)))] ?_)); intro ae R
  exact d_ ⟨⟨bOr .u64 (bShl .u64 b 1) (wu64 (w8 ((i.toNat : Int) - 48))), w64 (a + 1)⟩, C.1, C.2, (R.reg).anyβ _ (by kernel_rfl), v.kp⟩
 refine x_ (y_ (y_ (z_ (t_ (sqB f v [] [] [(2, y6 b)] ?_))))); intro af T
 exact r_ (ra1 T (y6 b) ⟨b, rfl, S, v.below⟩)
theorem bwrite_walk (u0 : Int) (u1 : Int)  (Z : Fz) (w : World)  (hZ : Z.on w) {K : (List UInt8) → Prop} (hp : bwrite_vc u0 u1 K) : Calls Tryz.prog 53 #[y6 u0, i6 u1] w fun e w' => ∃ r : (List UInt8), e = .returned (str r) ∧ K r ∧ Below w.heap.size w w' := by
 refine enter0 Tryz.func53 rfl rfl (by kernel_rfl) ?_; intro a0 q; have l := Mem.start w Z hZ
 refine sqB q l [] [] [] ?_; intro a2 v
 refine sqH ?_; intro V x
 refine s1 v 7 (i6 u1) ?_; intro a5 y
 obtain ⟨ax, W⟩ := hp
 refine mks y l (T := t8) u1 u1 (k := .i64) (k' := .i64) (e := 5) (bytes := 1) (zs := [y8 0]) (z := 0) (by simp only [lim]; omega) (nog rfl _) rfl (by kernel_rfl) rfl (by kernel_rfl) (by kernel_rfl) (by kernel_rfl) (by kernel_rfl) rfl ?_; intro b ay X A B
 have m : Mem w.heap.size [] w Z [.own t8 5 (sm b) u1.toNat (List.replicate u1.toNat (0 : Int))] Z X := B
 refine s1 A 5 (.slice (sm b) (List.replicate u1.toNat (0 : Int)).length u1.toNat) ?_; intro az C
 apply x
 refine s_ (sqB C m [] [] [(9, i6 u1), (10, i6 0)] ?_); intro D E
 apply b_
 have F : Fr 28 [] [⟨0, [], y6 u0⟩, ⟨1, [], i6 u1⟩, ⟨5, [], .slice (sm b) (List.replicate u1.toNat (0 : Int)).length u1.toNat⟩, ⟨9, [], i6 u1⟩, ⟨10, [], i6 0⟩] D := E.reg
 obtain ⟨Y, aa, ab, ac⟩ := W
 refine lp (ι := Int × Int × (List Int)) (fun s => [⟨0, [], y6 s.1⟩, ⟨1, [], i6 u1⟩, ⟨5, [], .slice (sm b) s.2.2.length u1.toNat⟩, ⟨9, [], i6 u1⟩, ⟨10, [], i6 s.2.1⟩]) (fun s => [.own t8 5 (sm b) u1.toNat s.2.2]) (fun s => Z) (fun s => Y s.1 s.2.1 s.2.2) (fun s => aa s.1 s.2.1 s.2.2) ⟨u0, 0, (List.replicate u1.toNat (0 : Int))⟩ ab (by exact F.reg) (by exact m) ?_
 rintro ⟨d, a, c⟩ ad ae af H I
 have i := ac d a c ad
 refine sqB H I [] [] [(11, .bool (decide (a < u1)))] ?_; intro aA h
 refine s_ (c_ h i (fun _ ag => ?_) fun _ ap => ?_)
 ·
  refine k_ (s_ (b_ (sqB h I [] [] [(6, i6 a)] ?_))); intro aB L
  refine sqH ?_; intro ah M
  refine bt L I 9 [] [] [(13, .slice (sm b) c.length u1.toNat), (17, i6 (w64 ((w64 (u1 - 1)) - a))), (21, y8 (w8 (48 + (w8 (bAnd .u64 d 1)))))] ?_; intro aC N
  obtain ⟨ai, O⟩ := ag
  refine ixo N I 0 (T := t8) (xs := c) (w64 ((w64 (u1 - 1)) - a)) ai (k := .i64) (e := 5) (bytes := 1) (nog rfl _) rfl (by kernel_rfl) rfl (by kernel_rfl) (by kernel_rfl) rfl (by kernel_rfl) ?_; intro aj ak al j
  obtain rfl : b = aj := by simpa using al
  refine so j I 0 (T := t8) (xs := c) (w64 ((w64 (u1 - 1)) - a)).toNat (w8 (48 + (w8 (bAnd .u64 d 1)))) (u := y8 (w8 (48 + (w8 (bAnd .u64 d 1))))) (nog rfl _) rfl rfl (by kernel_rfl) rfl (by kernel_rfl) rfl (by kernel_rfl) (by first | omega | (simp only [List.length_set] at *; omega)) rfl ?_; intro am P
  have Q : Fr 28 [] [⟨0, [], y6 d⟩, ⟨1, [], i6 u1⟩, ⟨5, [], .slice (sm b) (c.set (w64 ((w64 (u1 - 1)) - a)).toNat (w8 (48 + (w8 (bAnd .u64 d 1))))).length u1.toNat⟩, ⟨6, [], i6 a⟩, ⟨9, [], i6 u1⟩, ⟨10, [], i6 a⟩, ⟨11, [], .bool (decide (a < u1))⟩, ⟨13, [], .slice (sm b) (c.set (w64 ((w64 (u1 - 1)) - a)).toNat (w8 (48 + (w8 (bAnd .u64 d 1))))).length u1.toNat⟩, ⟨17, [], i6 (w64 ((w64 (u1 - 1)) - a))⟩, ⟨21, [], y8 (w8 (48 + (w8 (bAnd .u64 d 1))))⟩, ⟨22, [], .pointer (some ⟨b, (w64 ((w64 (u1 - 1)) - a)).toNat * 1, none⟩)⟩] ak := by (try simp only [List.length_set] at j); (try simp only [List.length_set]); exact j.reg
  have o : Mem w.heap.size [] w Z [.own t8 5 (sm b) u1.toNat (c.set (w64 ((w64 (u1 - 1)) - a)).toNat (w8 (48 + (w8 (bAnd .u64 d 1)))))] Z am := P
  apply M
  refine rgB Q o [] [] [(0, y6 (bShr .u64 d 1))] ?_; intro aD R
  refine j_ (t_ (rgB R o [] [] [(10, i6 (w64 (a + 1)))] ?_)); intro aE an
  exact d_ ⟨⟨bShr .u64 d 1, w64 (a + 1), c.set (w64 ((w64 (u1 - 1)) - a)).toNat (w8 (48 + (w8 (bAnd .u64 d 1))))⟩, O.1, O.2, (an.reg).anyβ _ (by kernel_rfl), o.kp⟩
 refine x_ (y_ (y_ (z_ (t_ (sqH ?_))))); intro aq S
 refine s1 h 26 (.slice (sm b) c.length u1.toNat) ?_; intro aF p
 refine u_ p (str (bstr c)) ((by obtain ⟨Z9, aG, ar, au⟩ := I.lend 0 rfl; exact bstr_op p (g := []) (e := 5) (ao := (sm b)) (cap := u1.toNat) (xs := c) rfl (by kernel_rfl) (by kernel_rfl) (by kernel_rfl) (by kernel_rfl)  au ar rfl)) ?_; intro aH U
 refine s1 U 4 (str (bstr c)) ?_; intro aI av
 apply S
 exact r_ (ra1 av (str (bstr c)) ⟨bstr c, rfl, ap, I.below⟩)
theorem bcheck_walk (u0 : List UInt8)  (Z : Fz) (w : World)  (hZ : Z.on w) {K : Int → Prop} (hp : bcheck_vc u0 K) : Calls Tryz.prog 16 #[str u0] w fun e w' => ∃ r : Int, e = .returned (i6 r) ∧ K r ∧ Below w.heap.size w w' := by
 refine enter0 Tryz.func16 rfl rfl (by kernel_rfl) ?_; intro z i; have a := Mem.start w Z hZ
 refine sqB i a [] [] [] ?_; intro B j
 refine s_ (sqB j a [] [] [(5, .bool (decide ((u0.length : Int) > 1000)))] ?_); intro C b
 refine c_ b hp (fun _ n => ?_) fun _ p => ?_
 ·
  refine sqB b a [] [] [(2, i6 2)] ?_; intro D o
  exact r_ (h_ (ra1 o (i6 2) ⟨2, rfl, n, a.below⟩))
 refine k_ (s_ (sqH ?_)); intro q k
 refine s1 b 6 (str u0) ?_; intro E l
 obtain ⟨s, d⟩ := p
 refine fc l a (trim_fun u0 ([48, 49] : List UInt8) s _ _ a.fz) ?_; intro F G m f
 refine sc m .neq (.bool ((trimS u0 ([48, 49] : List UInt8)) != ([] : List UInt8))) ?_; intro H c
 apply k
 refine c_ c d (fun _ u => ?_) fun _ x => ?_
 ·
  refine sqB c f [] [] [(2, i6 4)] ?_; intro I v
  exact r_ (h_ (ra1 v (i6 4) ⟨4, rfl, u, f.below⟩))
 refine k_ (sqB c f [] [] [(2, i6 0)] ?_); intro J y
 exact r_ (ra1 y (i6 0) ⟨0, rfl, x, f.below⟩)
theorem ckinds_walk   (Z : Fz) (w : World)  (hZ : Z.on w) {K : (Kind × Kind × Kind × Kind × Kind) → Prop} (hp : ckinds_vc  K) : Calls Tryz.prog 52 #[] w fun e w' => ∃ r : (Kind × Kind × Kind × Kind × Kind), e = .returned (.agg #[i6 r.1.Size, y6 r.1.Poly, y6 r.1.From, y6 r.1.End, i6 r.2.1.Size, y6 r.2.1.Poly, y6 r.2.1.From, y6 r.2.1.End, i6 r.2.2.1.Size, y6 r.2.2.1.Poly, y6 r.2.2.1.From, y6 r.2.2.1.End, i6 r.2.2.2.1.Size, y6 r.2.2.2.1.Poly, y6 r.2.2.2.1.From, y6 r.2.2.2.1.End, i6 r.2.2.2.2.Size, y6 r.2.2.2.2.Poly, y6 r.2.2.2.2.From, y6 r.2.2.2.2.End]) ∧ K r ∧ Below w.heap.size w w' := by
 refine enter0 Tryz.func52 rfl rfl (by kernel_rfl) ?_; intro q f; have g := Mem.start w Z hZ
 refine sqH ?_; intro n h
 refine nw f g pb [i6 0, y6 0, y6 0, y6 0, i6 0, y6 0, y6 0, y6 0, i6 0, y6 0, y6 0, y6 0, i6 0, y6 0, y6 0, y6 0, i6 0, y6 0, y6 0, y6 0] 84 ?_; intro a t u i c
 apply h
 refine sqH ?_; intro o j
 refine bt i c 6 [] [] [(6, .agg #[i6 15, y6 17817, y6 0, y6 0, i6 17, y6 92251, y6 65536, y6 0, i6 21, y6 1058969, y6 1048576, y6 0, i6 8, y6 47, y6 255, y6 255, i6 16, y6 4129, y6 65535, y6 0])] ?_; intro x d
 refine sx d c 0 [i6 15, y6 17817, y6 0, y6 0, i6 17, y6 92251, y6 65536, y6 0, i6 21, y6 1058969, y6 1048576, y6 0, i6 8, y6 47, y6 255, y6 255, i6 16, y6 4129, y6 65535, y6 0] 0 ?_; intro p l
 have m : Mem w.heap.size [] w Z [.row a [i6 15, y6 17817, y6 0, y6 0, i6 17, y6 92251, y6 65536, y6 0, i6 21, y6 1058969, y6 1048576, y6 0, i6 8, y6 47, y6 255, y6 255, i6 16, y6 4129, y6 65535, y6 0] 84] Z p := l
 apply j
 refine r_ (rt (fn := Tryz.f52) (v := .agg #[i6 15, y6 17817, y6 0, y6 0, i6 17, y6 92251, y6 65536, y6 0, i6 21, y6 1058969, y6 1048576, y6 0, i6 8, y6 47, y6 255, y6 255, i6 16, y6 4129, y6 65535, y6 0]) d (re1c d (fn := Tryz.f52) rfl (ad := ⟨a, 0, none⟩) (by kernel_rfl) (loadVar_run m 0 (b := a) (k := 20) (vs := [i6 15, y6 17817, y6 0, y6 0, i6 17, y6 92251, y6 65536, y6 0, i6 21, y6 1058969, y6 1048576, y6 0, i6 8, y6 47, y6 255, y6 255, i6 16, y6 4129, y6 65535, y6 0]) (ty := 84) rfl (by kernel_rfl) (by kernel_rfl)) ) ?_)
 exact ⟨((⟨15, 17817, 0, 0⟩ : Kind), (⟨17, 92251, 65536, 0⟩ : Kind), (⟨21, 1058969, 1048576, 0⟩ : Kind), (⟨8, 47, 255, 255⟩ : Kind), (⟨16, 4129, 65535, 0⟩ : Kind)), rfl, hp, m.below⟩
def ckinds_fun   (Z : Fz) (w : World)  (hZ : Z.on w) := f_ (ckinds_walk   Z w  hZ (ckinds_ok ))
theorem ksum_walk (u0 : Kind) (u1 : List UInt8)  (Z : Fz) (w : World)  (hZ : Z.on w) {K : Int → Prop} (hp : ksum_vc u0 u1 K) : Calls Tryz.prog 54 #[.agg #[i6 u0.Size, y6 u0.Poly, y6 u0.From, y6 u0.End], str u1] w fun e w' => ∃ r : Int, e = .returned (y6 r) ∧ K r ∧ Below w.heap.size w w' := by
 refine enter0 Tryz.func54 rfl rfl (by kernel_rfl) ?_; intro a0 p; have u := Mem.start w Z hZ
 refine sqH ?_; intro V v
 refine nw p u pb [i6 u0.Size, y6 u0.Poly, y6 u0.From, y6 u0.End] 83 ?_; intro d a3 aq x f
 refine s1 x 4 (y6 0) ?_; intro a7 y
 apply v
 refine sqB y f [0] [] [(5, y6 u0.From)] ?_; intro ar z
 refine sqH ?_; intro W A
 refine bt z f 3 [0] [] [(13, i6 (w64 (u0.Size - 1)))] ?_; intro au m
 obtain ⟨X, Y⟩ := hp
 refine u_ m (y6 (bShl .u64 1 (w64 (u0.Size - 1)))) (shl_run m (g := []) (k' := .i64) rfl (by kernel_rfl) (by kernel_rfl) X rfl) ?_; intro av B
 refine s1 B 6 (y6 (bShl .u64 1 (w64 (u0.Size - 1)))) ?_; intro aw C
 apply A
 refine s_ (sqB C f [] [] [(16, i6 (u1.length : Int)), (17, i6 0)] ?_); intro D E
 apply b_
 have F : Fr 45 [] [⟨1, [], str u1⟩, ⟨2, [], pt d 0⟩, ⟨5, [], y6 u0.From⟩, ⟨6, [], y6 (bShl .u64 1 (w64 (u0.Size - 1)))⟩, ⟨16, [], i6 (u1.length : Int)⟩, ⟨17, [], i6 0⟩] D := E.reg
 obtain ⟨aa, ab, ac, ad⟩ := Y
 refine lp (ι := Int × Int) (fun s => [⟨1, [], str u1⟩, ⟨2, [], pt d 0⟩, ⟨5, [], y6 s.1⟩, ⟨6, [], y6 (bShl .u64 1 (w64 (u0.Size - 1)))⟩, ⟨16, [], i6 (u1.length : Int)⟩, ⟨17, [], i6 s.2⟩]) (fun s => [.row d [i6 u0.Size, y6 u0.Poly, y6 u0.From, y6 u0.End] 83]) (fun s => Z) (fun s => aa s.1 s.2) (fun s => ab s.1 s.2) ⟨u0.From, 0⟩ ac (by exact F.reg) (by exact f) ?_
 rintro ⟨a, c⟩ ae af ag H I
 have j := ad a c ae
 refine sqB H I [] [] [(18, .bool (decide (c < (u1.length : Int))))] ?_; intro ax h
 refine s_ (c_ h j (fun _ ah => ?_) fun _ an => ?_)
 ·
  refine k_ (s_ (b_ (sqB h I [] [] [(7, i6 c)] ?_))); intro ay L
  refine sqH ?_; intro ai M
  refine bt L I 6 [] [] [(23, .bool ((bAnd .u64 a (bShl .u64 1 (w64 (u0.Size - 1)))) != 0)), (24, str u1), (25, i6 c)] ?_; intro az N
  obtain ⟨aj, ak⟩ := ah
  obtain ⟨k, O⟩ : ∃ q, u1[c.toNat]? = some q := ⟨_, List.getElem?_eq_getElem (by omega)⟩; have l := ak k O
  refine si N .i64 aj.1 O ?_; intro aA P
  refine bt P I 3 [] [] [(8, .bool (((bAnd .u64 a (bShl .u64 1 (w64 (u0.Size - 1)))) != 0) != ((k.toNat : Int) == 49)))] ?_; intro aB Q
  apply M
  refine sqB Q I [] [] [(5, y6 (bAnd .u64 (bShl .u64 a 1) (wu64 ((bShl .u64 (bShl .u64 1 (w64 (u0.Size - 1))) 1) - 1))))] ?_; intro aC R
  refine sqB R I [] [] [(35, .bool (((bAnd .u64 a (bShl .u64 1 (w64 (u0.Size - 1)))) != 0) != ((k.toNat : Int) == 49)))] ?_; intro aD i
  refine c_ i l (fun _ S => ?_) fun _ U => ?_
  ·
   refine rgB i I [0] [] [(5, y6 (bXor .u64 (bAnd .u64 (bShl .u64 a 1) (wu64 ((bShl .u64 (bShl .u64 1 (w64 (u0.Size - 1))) 1) - 1))) u0.Poly))] ?_; intro aE T
   refine j_ (t_ (rgB T I [] [] [(17, i6 (w64 (c + 1)))] ?_)); intro aF al
   exact d_ ⟨⟨bXor .u64 (bAnd .u64 (bShl .u64 a 1) (wu64 ((bShl .u64 (bShl .u64 1 (w64 (u0.Size - 1))) 1) - 1))) u0.Poly, w64 (c + 1)⟩, S.1, S.2, (al.reg).anyβ _ (by kernel_rfl), I.kp⟩
  refine l_ (j_ (t_ (rgB i I [] [] [(17, i6 (w64 (c + 1)))] ?_))); intro aG am
  exact d_ ⟨⟨bAnd .u64 (bShl .u64 a 1) (wu64 ((bShl .u64 (bShl .u64 1 (w64 (u0.Size - 1))) 1) - 1)), w64 (c + 1)⟩, U.1, U.2, (am.reg).anyβ _ (by kernel_rfl), I.kp⟩
 refine x_ (y_ (y_ (z_ (t_ (sqB h I [0] [] [(4, y6 (bXor .u64 a u0.End))] ?_))))); intro aH ao
 exact r_ (ra1 ao (y6 (bXor .u64 a u0.End)) ⟨bXor .u64 a u0.End, rfl, an, I.below⟩)
theorem cnext_walk (u0 : Counter) (u1 : Int) (b1 : Nat) (B : Nat) (w0 : World) (Z0 : Fz) (Rr : List Res) (Z : Fz) (w : World) (hM0 : Mem B [] w0 Z0 ((.row b1 [y8 u0.last, i6 u0.n] 42) :: Rr) Z w) (hZ : Z.on w) {K : (Int × Bool × Counter) → Prop} (hp : cnext_vc u0 u1 K) : Calls Tryz.prog 48 #[pt b1 0, y8 u1] w fun e w' => ∃ (r : Int × Bool × Counter) (Z' : Fz), e = .returned (.tuple #[y8 r.1, .bool r.2.1]) ∧ K r ∧ Fz.le Z Z' ∧ Mem B [] w0 Z0 ((.row b1 [y8 r.2.2.last, i6 r.2.2.n] 42) :: Rr) Z' w' := by
 refine enter0 Tryz.func48 rfl rfl (by kernel_rfl) ?_; intro a0 l; have m := Fz.le.refl Z
 refine sqB l hM0 [] [] [] ?_; intro a5 o
 refine s_ (sqB o hM0 [0] [] [(11, .bool (u1 == u0.last))] ?_); intro ah a
 refine c_ a hp (fun _ S => ?_) fun _ aa => ?_
 ·
  refine rgH ?_; intro T p
  refine bt a hM0 7 [0] [] [(16, i6 (w64 (u0.n + 1))), (18, pt b1 1)] ?_; intro U d
  refine sx d hM0 0 [y8 u0.last, i6 (w64 (u0.n + 1))] 1 ?_; intro V q
  have s : Mem B [] w0 Z0 ((.row b1 [y8 u0.last, i6 (w64 (u0.n + 1))] 42) :: Rr) Z V := q
  apply p
  apply t_
  have u : Fr 33 [] [⟨0, [], pt b1 0⟩, ⟨1, [], y8 u1⟩] U := d.reg
  refine sqQH mixed (by kernel_rfl) s ?_; intro W v
  refine q1 u 26 (y8 u1) ?_; intro ai x
  refine q1 x 27 (y8 (w8 (97 - u1))) ?_; intro aj y
  refine q1 y 28 (pt b1 0) ?_; intro ak z
  refine q1 z 29 (pt b1 0) ?_; intro al A
  refine q1 A 30 (pt b1 1) ?_; intro am f
  refine ql_ f 0 1 (i6 (w64 (u0.n + 1))) rfl rfl ?_; intro an C
  refine q1 C 32 (.bool ((w64 (u0.n + 1)) == 5)) ?_; intro ao D
  refine q1 D 4 (y8 (w8 (97 - u1))) ?_; intro ap E
  refine q1 E 5 (.bool ((w64 (u0.n + 1)) == 5)) ?_; intro aq X
  refine qnl (v _ ?_); intro ar Y
  exact r_ (ra2 X (.tuple #[y8 (w8 (97 - u1)), .bool ((w64 (u0.n + 1)) == 5)]) ⟨(w8 (97 - u1), (w64 (u0.n + 1)) == 5, (⟨u0.last, w64 (u0.n + 1)⟩ : Counter)), Z, rfl, S, m, Y.kp⟩)
 refine rgH ?_; intro ab F
 refine bt a hM0 5 [] [] [(20, pt b1 0), (21, y8 u1), (23, pt b1 0)] ?_; intro au h
 refine sx h hM0 0 [y8 u1, i6 u0.n] 0 ?_; intro av i
 refine bt h i 2 [] [] [(25, pt b1 1)] ?_; intro ac j
 refine sx j i 0 [y8 u1, i6 1] 1 ?_; intro ad G
 have H : Mem B [] w0 Z0 ((.row b1 [y8 u1, i6 1] 42) :: Rr) Z ad := G
 apply F
 apply t_
 have I : Fr 33 [] [⟨0, [], pt b1 0⟩, ⟨1, [], y8 u1⟩] ac := j.reg
 refine sqQH mixed (by kernel_rfl) H ?_; intro ae J
 refine q1 I 26 (y8 u1) ?_; intro aw L
 refine q1 L 27 (y8 (w8 (97 - u1))) ?_; intro ax M
 refine q1 M 28 (pt b1 0) ?_; intro ay N
 refine q1 N 29 (pt b1 0) ?_; intro az O
 refine q1 O 30 (pt b1 1) ?_; intro aA k
 refine ql_ k 0 1 (i6 1) rfl rfl ?_; intro aB P
 refine q1 P 32 (.bool false) ?_; intro aC Q
 refine q1 Q 4 (y8 (w8 (97 - u1))) ?_; intro aD R
 refine q1 R 5 (.bool false) ?_; intro aE af
 refine qnl (J _ ?_); intro aF ag
 exact r_ (ra2 af (.tuple #[y8 (w8 (97 - u1)), .bool false]) ⟨(w8 (97 - u1), false, (⟨u1, 1⟩ : Counter)), Z, rfl, aa, m, ag.kp⟩)
theorem cnextF_walk (u0 : FReader) (u1 : Int) (b1 : Nat) (ao2 : Option Addr) (cap3 : Nat) (B : Nat) (w0 : World) (Z0 : Fz) (Rr : List Res) (Z : Fz) (w : World) (hs4 : SlR t8 Z ao2 cap3 u0.f.Data) (hM0 : Mem B [] w0 Z0 ((.row b1 [str u0.Reader.Row, i6 u0.Reader.At, i6 u0.Reader.Code, y8 u0.Reader.c.last, i6 u0.Reader.c.n, i6 u0.f.ID, .bool u0.f.Long, .bool u0.f.Fast, .bool u0.f.Remote, i6 u0.f.Size, .slice ao2 u0.f.Data.length cap3] 46) :: Rr) Z w) (hZ : Z.on w) {K : (Int × Bool × FReader) → Prop} (hp : cnextF_vc u0 u1 K) : Calls Tryz.prog 48 #[pt b1 3, y8 u1] w fun e w' => ∃ (r : Int × Bool × FReader) (ao1001 : Option Addr) (cap1002 : Nat) (Z' : Fz), e = .returned (.tuple #[y8 r.1, .bool r.2.1]) ∧ K r ∧ Fz.le Z Z' ∧ SlR t8 Z' ao1001 cap1002 r.2.2.f.Data ∧ Mem B [] w0 Z0 ((.row b1 [str r.2.2.Reader.Row, i6 r.2.2.Reader.At, i6 r.2.2.Reader.Code, y8 r.2.2.Reader.c.last, i6 r.2.2.Reader.c.n, i6 r.2.2.f.ID, .bool r.2.2.f.Long, .bool r.2.2.f.Fast, .bool r.2.2.f.Remote, i6 r.2.2.f.Size, .slice ao1001 r.2.2.f.Data.length cap1002] 46) :: Rr) Z' w' := by
 refine enter0 Tryz.func48 rfl rfl (by kernel_rfl) ?_; intro a0 p; have q := Fz.le.refl Z
 have d := hp (hs4.small)
 refine sqB p hM0 [] [] [] ?_; intro a9 s
 refine s_ (sqB s hM0 [0] [] [(11, .bool (u1 == u0.Reader.c.last))] ?_); intro ak a
 refine c_ a d (fun _ V => ?_) fun _ ad => ?_
 ·
  refine rgH ?_; intro W u
  refine bt a hM0 7 [0] [] [(16, i6 (w64 (u0.Reader.c.n + 1))), (18, pt b1 4)] ?_; intro X i
  refine sx i hM0 0 [str u0.Reader.Row, i6 u0.Reader.At, i6 u0.Reader.Code, y8 u0.Reader.c.last, i6 (w64 (u0.Reader.c.n + 1)), i6 u0.f.ID, .bool u0.f.Long, .bool u0.f.Fast, .bool u0.f.Remote, i6 u0.f.Size, .slice ao2 u0.f.Data.length cap3] 4 ?_; intro Y v
  have x : Mem B [] w0 Z0 ((.row b1 [str u0.Reader.Row, i6 u0.Reader.At, i6 u0.Reader.Code, y8 u0.Reader.c.last, i6 (w64 (u0.Reader.c.n + 1)), i6 u0.f.ID, .bool u0.f.Long, .bool u0.f.Fast, .bool u0.f.Remote, i6 u0.f.Size, .slice ao2 u0.f.Data.length cap3] 46) :: Rr) Z Y := v
  apply u
  apply t_
  have y : Fr 33 [] [⟨0, [], pt b1 3⟩, ⟨1, [], y8 u1⟩] X := i.reg
  refine sqQH mixed (by kernel_rfl) x ?_; intro aa z
  refine q1 y 26 (y8 u1) ?_; intro al A
  refine q1 A 27 (y8 (w8 (97 - u1))) ?_; intro am C
  refine q1 C 28 (pt b1 3) ?_; intro an D
  refine q1 D 29 (pt b1 3) ?_; intro ao E
  refine q1 E 30 (pt b1 4) ?_; intro ap j
  refine ql_ j 0 4 (i6 (w64 (u0.Reader.c.n + 1))) rfl rfl ?_; intro aq F
  refine q1 F 32 (.bool ((w64 (u0.Reader.c.n + 1)) == 5)) ?_; intro ar G
  refine q1 G 4 (y8 (w8 (97 - u1))) ?_; intro au H
  refine q1 H 5 (.bool ((w64 (u0.Reader.c.n + 1)) == 5)) ?_; intro av ab
  refine qnl (z _ ?_); intro aw ac
  exact r_ (ra2 ab (.tuple #[y8 (w8 (97 - u1)), .bool ((w64 (u0.Reader.c.n + 1)) == 5)]) ⟨(w8 (97 - u1), (w64 (u0.Reader.c.n + 1)) == 5, (⟨(⟨u0.Reader.Row, u0.Reader.At, u0.Reader.Code, (⟨u0.Reader.c.last, w64 (u0.Reader.c.n + 1)⟩ : Counter)⟩ : Reader), u0.f⟩ : FReader)), ao2, cap3, Z, rfl, V, q, hs4, ac.kp⟩)
 refine rgH ?_; intro ae I
 refine bt a hM0 5 [] [] [(20, pt b1 3), (21, y8 u1), (23, pt b1 3)] ?_; intro ax k
 refine sx k hM0 0 [str u0.Reader.Row, i6 u0.Reader.At, i6 u0.Reader.Code, y8 u1, i6 u0.Reader.c.n, i6 u0.f.ID, .bool u0.f.Long, .bool u0.f.Fast, .bool u0.f.Remote, i6 u0.f.Size, .slice ao2 u0.f.Data.length cap3] 3 ?_; intro ay l
 refine bt k l 2 [] [] [(25, pt b1 4)] ?_; intro af m
 refine sx m l 0 [str u0.Reader.Row, i6 u0.Reader.At, i6 u0.Reader.Code, y8 u1, i6 1, i6 u0.f.ID, .bool u0.f.Long, .bool u0.f.Fast, .bool u0.f.Remote, i6 u0.f.Size, .slice ao2 u0.f.Data.length cap3] 4 ?_; intro ag J
 have L : Mem B [] w0 Z0 ((.row b1 [str u0.Reader.Row, i6 u0.Reader.At, i6 u0.Reader.Code, y8 u1, i6 1, i6 u0.f.ID, .bool u0.f.Long, .bool u0.f.Fast, .bool u0.f.Remote, i6 u0.f.Size, .slice ao2 u0.f.Data.length cap3] 46) :: Rr) Z ag := J
 apply I
 apply t_
 have M : Fr 33 [] [⟨0, [], pt b1 3⟩, ⟨1, [], y8 u1⟩] af := m.reg
 refine sqQH mixed (by kernel_rfl) L ?_; intro ah N
 refine q1 M 26 (y8 u1) ?_; intro az O
 refine q1 O 27 (y8 (w8 (97 - u1))) ?_; intro aA P
 refine q1 P 28 (pt b1 3) ?_; intro aB Q
 refine q1 Q 29 (pt b1 3) ?_; intro aC R
 refine q1 R 30 (pt b1 4) ?_; intro aD o
 refine ql_ o 0 4 (i6 1) rfl rfl ?_; intro aE S
 refine q1 S 32 (.bool false) ?_; intro aF T
 refine q1 T 4 (y8 (w8 (97 - u1))) ?_; intro aG U
 refine q1 U 5 (.bool false) ?_; intro aH ai
 refine qnl (N _ ?_); intro aI aj
 exact r_ (ra2 ai (.tuple #[y8 (w8 (97 - u1)), .bool false]) ⟨(w8 (97 - u1), false, (⟨(⟨u0.Reader.Row, u0.Reader.At, u0.Reader.Code, (⟨u1, 1⟩ : Counter)⟩ : Reader), u0.f⟩ : FReader)), ao2, cap3, Z, rfl, ad, q, hs4, aj.kp⟩)
theorem rbitF_walk (u0 : FReader) (b1 : Nat) (ao2 : Option Addr) (cap3 : Nat) (B : Nat) (w0 : World) (Z0 : Fz) (Rr : List Res) (Z : Fz) (w : World) (hs4 : SlR t8 Z ao2 cap3 u0.f.Data) (hM0 : Mem B [] w0 Z0 ((.row b1 [str u0.Reader.Row, i6 u0.Reader.At, i6 u0.Reader.Code, y8 u0.Reader.c.last, i6 u0.Reader.c.n, i6 u0.f.ID, .bool u0.f.Long, .bool u0.f.Fast, .bool u0.f.Remote, i6 u0.f.Size, .slice ao2 u0.f.Data.length cap3] 46) :: Rr) Z w) (hZ : Z.on w) {K : (Int × FReader) → Prop} (hp : rbitF_vc u0 K) : Calls Tryz.prog 47 #[pt b1 0] w fun e w' => ∃ (r : Int × FReader) (ao1001 : Option Addr) (cap1002 : Nat) (Z' : Fz), e = .returned (y8 r.1) ∧ K r ∧ Fz.le Z Z' ∧ SlR t8 Z' ao1001 cap1002 r.2.f.Data ∧ Mem B [] w0 Z0 ((.row b1 [str r.2.Reader.Row, i6 r.2.Reader.At, i6 r.2.Reader.Code, y8 r.2.Reader.c.last, i6 r.2.Reader.c.n, i6 r.2.f.ID, .bool r.2.f.Long, .bool r.2.f.Fast, .bool r.2.f.Remote, i6 r.2.f.Size, .slice ao1001 r.2.f.Data.length cap1002] 46) :: Rr) Z' w' := by
 refine enter0 Tryz.func47 rfl rfl (by kernel_rfl) ?_; intro a0 C; have m := Fz.le.refl Z
 have j := hp (hs4.small)
 refine sqB C hM0 [] [] [] ?_; intro a7 D
 refine s_ (sqB D hM0 [0] [] [(7, .bool (u0.Reader.Code != 0))] ?_); intro af d
 refine c_ d j (fun _ ag => ?_) fun _ l => ?_
 ·
  refine sqB d hM0 [] [] [(2, y8 48)] ?_; intro az ah
  exact r_ (h_ (ra1 ah (y8 48) ⟨(48, u0), ao2, cap3, Z, rfl, ag, m, hs4, hM0.kp⟩))
 refine k_ (s_ ?_)
 have E : Fr 38 [] [⟨0, [], pt b1 0⟩] af := d.reg
 refine sqQH mixed (by kernel_rfl) hM0 ?_; intro ai F
 refine q1 E 8 (pt b1 0) ?_; intro aA G
 refine q1 G 9 (pt b1 0) ?_; intro aB H
 refine q1 H 10 (pt b1 1) ?_; intro aC p
 refine ql_ p 0 1 (i6 u0.Reader.At) rfl rfl ?_; intro aD I
 refine q1 I 12 (pt b1 0) ?_; intro aE J
 refine q1 J 13 (pt b1 0) ?_; intro aF L
 refine q1 L 14 (pt b1 0) ?_; intro aG s
 refine ql_ s 0 0 (str u0.Reader.Row) rfl rfl ?_; intro aH M
 refine q1 M 16 (i6 (u0.Reader.Row.length : Int)) ?_; intro aI N
 refine q1 N 17 (.bool (u0.Reader.At == (u0.Reader.Row.length : Int))) ?_; intro aJ h
 refine qnl (F _ ?_); intro aK a
 refine c_ h l (fun _ aj => ?_) fun _ an => ?_
 ·
  refine sqH ?_; intro ak O
  refine bt h a 3 [] [] [(20, pt b1 2)] ?_; intro aL v
  refine sx v a 0 [str u0.Reader.Row, i6 u0.Reader.At, i6 7, y8 u0.Reader.c.last, i6 u0.Reader.c.n, i6 u0.f.ID, .bool u0.f.Long, .bool u0.f.Fast, .bool u0.f.Remote, i6 u0.f.Size, .slice ao2 u0.f.Data.length cap3] 2 ?_; intro al P
  have Q : Mem B [] w0 Z0 ((.row b1 [str u0.Reader.Row, i6 u0.Reader.At, i6 7, y8 u0.Reader.c.last, i6 u0.Reader.c.n, i6 u0.f.ID, .bool u0.f.Long, .bool u0.f.Fast, .bool u0.f.Remote, i6 u0.f.Size, .slice ao2 u0.f.Data.length cap3] 46) :: Rr) Z al := P
  apply O
  refine sqB v Q [] [] [(2, y8 48)] ?_; intro aM am
  exact r_ (h_ (ra1 am (y8 48) ⟨(48, (⟨(⟨u0.Reader.Row, u0.Reader.At, 7, u0.Reader.c⟩ : Reader), u0.f⟩ : FReader)), ao2, cap3, Z, rfl, aj, m, hs4, Q.kp⟩))
 refine k_ (sqH ?_); intro ao R
 refine bt h a 7 [0] [] [(25, i6 (w64 (u0.Reader.At + 1))), (27, pt b1 1)] ?_; intro ap x
 refine sx x a 0 [str u0.Reader.Row, i6 (w64 (u0.Reader.At + 1)), i6 u0.Reader.Code, y8 u0.Reader.c.last, i6 u0.Reader.c.n, i6 u0.f.ID, .bool u0.f.Long, .bool u0.f.Fast, .bool u0.f.Remote, i6 u0.f.Size, .slice ao2 u0.f.Data.length cap3] 1 ?_; intro aq S
 have T : Mem B [] w0 Z0 ((.row b1 [str u0.Reader.Row, i6 (w64 (u0.Reader.At + 1)), i6 u0.Reader.Code, y8 u0.Reader.c.last, i6 u0.Reader.c.n, i6 u0.f.ID, .bool u0.f.Long, .bool u0.f.Fast, .bool u0.f.Remote, i6 u0.f.Size, .slice ao2 u0.f.Data.length cap3] 46) :: Rr) Z aq := S
 apply R
 have U : Fr 38 [] [⟨0, [], pt b1 0⟩] ap := x.reg
 refine sqQH mixed (by kernel_rfl) T ?_; intro ar V
 refine q1 U 28 (pt b1 0) ?_; intro aN W
 refine q1 W 29 (pt b1 0) ?_; intro aO X
 refine q1 X 30 (pt b1 0) ?_; intro aP y
 refine ql_ y 0 0 (str u0.Reader.Row) rfl rfl ?_; intro aQ Y
 refine q1 Y 32 (pt b1 0) ?_; intro aR aa
 refine q1 aa 33 (pt b1 0) ?_; intro aS ab
 refine q1 ab 34 (pt b1 1) ?_; intro aT z
 refine ql_ z 0 1 (i6 (w64 (u0.Reader.At + 1))) rfl rfl ?_; intro aU ac
 refine q1 ac 36 (i6 (w64 ((w64 (u0.Reader.At + 1)) - 1))) ?_; intro aV A
 obtain ⟨au, av⟩ := an
 obtain ⟨i, ad⟩ : ∃ q, u0.Reader.Row[(w64 ((w64 (u0.Reader.At + 1)) - 1)).toNat]? = some q := ⟨_, List.getElem?_eq_getElem (by omega)⟩; have aw := av i ad
 refine qu_ A (y8 (i.toNat : Int)) (fun v123 hC => stridx_run A (k := .i64) rfl (by kernel_rfl) (by kernel_rfl) (by kernel_rfl) au.1 ad) ?_; intro aW ae
 refine q1 ae 2 (y8 (i.toNat : Int)) ?_; intro aX ax
 refine qnl (V _ ?_); intro aY ay
 exact r_ (ra1 ax (y8 (i.toNat : Int)) ⟨((i.toNat : Int), (⟨(⟨u0.Reader.Row, w64 (u0.Reader.At + 1), u0.Reader.Code, u0.Reader.c⟩ : Reader), u0.f⟩ : FReader)), ao2, cap3, Z, rfl, aw, m, hs4, ay.kp⟩)
theorem fsizes_walk   (Z : Fz) (w : World)  (hZ : Z.on w) {K : (List Int) → Prop} (hp : fsizes_vc  K) : Calls Tryz.prog 20 #[] w fun e w' => ∃ (r : (List Int)) (ao1001 : Option Addr) (cap1002 : Nat) (Z' : Fz), e = .returned (.slice ao1001 r.length cap1002) ∧ K r ∧ Mem w.heap.size [] w Z [.own t6 3 ao1001 cap1002 r] Z' w' := by
 refine enter0 Tryz.func20 rfl rfl (by kernel_rfl) ?_; intro n d; have c := Mem.start w Z hZ
 refine sqB d c [] [] [] ?_; intro p f
 refine sqH ?_; intro j g
 refine nw f c (fun b => .slice (sm b) 16 16) [i6 0, i6 1, i6 2, i6 3, i6 4, i6 5, i6 6, i6 7, i6 8, i6 12, i6 16, i6 20, i6 24, i6 32, i6 48, i6 64] 3 ?_; intro a q k h i
 refine s1 h 0 (.slice (sm a) 16 16) ?_; intro s l
 apply g
 apply r_
 have m : Mem w.heap.size [] w Z [.own t6 3 (sm a) 16 ([0, 1, 2, 3, 4, 5, 6, 7, 8, 12, 16, 20, 24, 32, 48, 64] : List Int)] Z k := i.rowOwn (T := t6) (xs := ([0, 1, 2, 3, 4, 5, 6, 7, 8, 12, 16, 20, 24, 32, 48, 64] : List Int)) 0 rfl (by decide) (by show 16 ≤ lim; decide) ((RepAll.one (T := t6) (x := 0) rfl).append ((RepAll.one (T := t6) (x := 1) rfl).append ((RepAll.one (T := t6) (x := 2) rfl).append ((RepAll.one (T := t6) (x := 3) rfl).append ((RepAll.one (T := t6) (x := 4) rfl).append ((RepAll.one (T := t6) (x := 5) rfl).append ((RepAll.one (T := t6) (x := 6) rfl).append ((RepAll.one (T := t6) (x := 7) rfl).append ((RepAll.one (T := t6) (x := 8) rfl).append ((RepAll.one (T := t6) (x := 12) rfl).append ((RepAll.one (T := t6) (x := 16) rfl).append ((RepAll.one (T := t6) (x := 20) rfl).append ((RepAll.one (T := t6) (x := 24) rfl).append ((RepAll.one (T := t6) (x := 32) rfl).append ((RepAll.one (T := t6) (x := 48) rfl).append (RepAll.one (T := t6) (x := 64) rfl))))))))))))))))
 exact ra1 l (.slice (sm a) ([0, 1, 2, 3, 4, 5, 6, 7, 8, 12, 16, 20, 24, 32, 48, 64] : List Int).length 16) ⟨([0, 1, 2, 3, 4, 5, 6, 7, 8, 12, 16, 20, 24, 32, 48, 64] : List Int), (sm a), 16, Z, rfl, hp, m.kp⟩
def fsizes_fun   (Z : Fz) (w : World)  (hZ : Z.on w) := fc_ (fsizes_walk   Z w  hZ (fsizes_ok ))
theorem fbit_walk (u0 : Bool)  (Z : Fz) (w : World)  (hZ : Z.on w) {K : (List UInt8) → Prop} (hp : fbit_vc u0 K) : Calls Tryz.prog 83 #[.bool u0] w fun e w' => ∃ r : (List UInt8), e = .returned (str r) ∧ K r ∧ Below w.heap.size w w' := by
 refine enter0 Tryz.func83 rfl rfl (by kernel_rfl) ?_; intro k d; have a := Mem.start w Z hZ
 refine sqB d a [] [] [] ?_; intro m f
 refine s_ (sqB f a [] [] [(3, .bool u0)] ?_); intro n b
 refine c_ b hp (fun _ g => ?_) fun _ i => ?_
 ·
  refine sqB b a [] [] [(2, str ([49] : List UInt8))] ?_; intro o h
  exact r_ (h_ (ra1 h (str ([49] : List UInt8)) ⟨([49] : List UInt8), rfl, g, a.below⟩))
 refine k_ (sqB b a [] [] [(2, str ([48] : List UInt8))] ?_); intro p j
 exact r_ (ra1 j (str ([48] : List UInt8)) ⟨([48] : List UInt8), rfl, i, a.below⟩)
def fbit_fun (u0 : Bool)  (Z : Fz) (w : World)  (hZ : Z.on w) := f_ (fbit_walk u0  Z w  hZ (fbit_ok u0))
theorem fkind_walk (u0 : Frame) (ao1 : Option Addr) (cap2 : Nat) (Z : Fz) (w : World) (hs3 : SlR t8 Z ao1 cap2 u0.Data) (hZ : Z.on w) {K : Int → Prop} (hp : fkind_vc u0 K) : Calls Tryz.prog 50 #[.agg #[i6 u0.ID, .bool u0.Long, .bool u0.Fast, .bool u0.Remote, i6 u0.Size, .slice ao1 u0.Data.length cap2]] w fun e w' => ∃ r : Int, e = .returned (i6 r) ∧ K r ∧ Below w.heap.size w w' := by
 refine enter0 Tryz.func50 rfl rfl (by kernel_rfl) ?_; intro x i; have j := Mem.start w Z hZ
 have d := hp (hs3.small)
 refine sqH ?_; intro n k
 refine nw i j pb [i6 u0.ID, .bool u0.Long, .bool u0.Fast, .bool u0.Remote, i6 u0.Size, .slice ao1 u0.Data.length cap2] 24 ?_; intro z A B l a
 refine s1 l 2 (i6 0) ?_; intro C m
 apply k
 refine s_ (b_ (sqB m a [0] [] [(3, .bool (!u0.Fast))] ?_)); intro D b
 refine c_ b d (fun _ o => ?_) fun _ f => ?_
 ·
  refine sqB b a [] [] [(2, i6 0)] ?_; intro E p
  exact r_ (i_ (h_ (ra1 p (i6 0) ⟨0, rfl, o, a.below⟩)))
 refine sqB b a [0] [] [(7, .bool (decide ((u0.Data.length : Int) ≤ 16)))] ?_; intro F c
 refine c_ c f (fun _ q => ?_) fun _ u => ?_
 ·
  refine sqB c a [] [] [(2, i6 1)] ?_; intro G s
  exact r_ (i_ (h_ (ra1 s (i6 1) ⟨1, rfl, q, a.below⟩)))
 refine l_ (j_ (t_ (sqB c a [] [] [(2, i6 2)] ?_))); intro H v
 exact r_ (ra1 v (i6 2) ⟨2, rfl, u, a.below⟩)
def fkind_fun (u0 : Frame) (ao1 : Option Addr) (cap2 : Nat) (Z : Fz) (w : World) (hs3 : SlR t8 Z ao1 cap2 u0.Data) (hZ : Z.on w) := f_ (fkind_walk u0 ao1 cap2 Z w hs3 hZ (fkind_ok u0))
theorem sindex_walk (u0 : List Int) (u1 : Int) (ao1 : Option Addr) (cap2 : Nat) (Z : Fz) (w : World) (hs3 : SlR t6 Z ao1 cap2 u0) (hZ : Z.on w) {K : Int → Prop} (hp : sindex_vc u0 u1 K) : Calls Tryz.prog 55 #[.slice ao1 u0.length cap2, i6 u1] w fun e w' => ∃ r : Int, e = .returned (i6 r) ∧ K r ∧ Below w.heap.size w w' := by
 refine enter0 Tryz.func55 rfl rfl (by kernel_rfl) ?_; intro a0 m; have g := Mem.start w Z hZ
 have G := hp (hs3.small)
 refine sqB m g [] [] [] ?_; intro a6 n
 refine s_ (sqB n g [] [] [(7, i6 (u0.length : Int)), (8, i6 0)] ?_); intro o p
 apply b_
 have q : Fr 19 [] [⟨0, [], .slice ao1 u0.length cap2⟩, ⟨1, [], i6 u1⟩, ⟨7, [], i6 (u0.length : Int)⟩, ⟨8, [], i6 0⟩] o := p.reg
 obtain ⟨H, I, J, L⟩ := G
 refine lp (ι := Int) (fun s => [⟨0, [], .slice ao1 u0.length cap2⟩, ⟨1, [], i6 u1⟩, ⟨7, [], i6 (u0.length : Int)⟩, ⟨8, [], i6 s⟩]) (fun s => []) (fun s => Z) (fun s => H s) (fun s => I s) 0 J (by exact q.reg) (by exact g) ?_
 rintro a M N O v x
 have h := L a M
 refine sqB v x [] [] [(9, .bool (decide (a < (u0.length : Int))))] ?_; intro ae c
 refine s_ (c_ c h (fun _ P => ?_) fun _ ab => ?_)
 ·
  refine k_ (s_ (b_ (sqB c x [] [] [(5, i6 a)] ?_))); intro af z
  refine sqH ?_; intro Q A
  refine bt z x 3 [] [] [(11, i6 u1), (12, .slice ao1 u0.length cap2), (13, i6 a)] ?_; intro ag B
  obtain ⟨R, C⟩ := P
  refine ix_ B hs3 a R .i64 3 8 ?_; intro ah ai S d aj U V W D
  have i := C d U
  obtain rfl : S = ([i6 d] : List Value) := W
  refine z1 D x 15 V 0 (i6 d) rfl ?_; intro ak E
  refine s1 E 16 (.bool (u1 == d)) ?_; intro al f
  apply A
  refine c_ f i (fun _ X => ?_) fun _ F => ?_
  ·
   refine sqB f x [] [] [(4, i6 a)] ?_; intro am Y
   exact r_ (i_ (h_ (h_ (i_ (h_ (ra1 Y (i6 a) ⟨a, rfl, X, x.below⟩))))))
  refine l_ (j_ (t_ (rgB f x [] [] [(8, i6 (w64 (a + 1)))] ?_))); intro an aa
  exact d_ ⟨w64 (a + 1), F.1, F.2, (aa.reg).anyβ _ (by kernel_rfl), x.kp⟩
 refine x_ (y_ (y_ (z_ (t_ (sqB c x [] [] [(4, i6 (-1))] ?_))))); intro ao ac
 exact r_ (ra1 ac (i6 (-1)) ⟨-1, rfl, ab, x.below⟩)
theorem scontains_walk (u0 : List Int) (u1 : Int) (ao1 : Option Addr) (cap2 : Nat) (Z : Fz) (w : World) (hs3 : SlR t6 Z ao1 cap2 u0) (hZ : Z.on w) {K : Bool → Prop} (hp : scontains_vc u0 u1 K) : Calls Tryz.prog 39 #[.slice ao1 u0.length cap2, i6 u1] w fun e w' => ∃ r : Bool, e = .returned (.bool r) ∧ K r ∧ Below w.heap.size w w' := by
 refine enter0 Tryz.func39 rfl rfl (by kernel_rfl) ?_; intro n c; have a := Mem.start w Z hZ
 have j := hp (hs3.small)
 refine sqB c a [] [] [] ?_; intro p d
 refine sqH ?_; intro k f
 refine bt d a 2 [] [] [(5, .slice ao1 u0.length cap2), (6, i6 u1)] ?_; intro q g
 refine ck g 55 #[.slice ao1 u0.length cap2, i6 u1] ?_
 refine (sindex_walk u0 u1 ao1 cap2 _ _ hs3 a.fz j).mono ?_; rintro _ s ⟨b, rfl, l, hb⟩; refine ⟨_, rfl, ?_⟩; intro t h; have i := a.call hb
 refine bt h i 2 [] [] [(4, .bool (decide (b ≥ 0)))] ?_; intro u m
 apply f
 exact r_ (ra1 m (.bool (decide (b ≥ 0))) ⟨decide (b ≥ 0), rfl, l, i.below⟩)
end Go.Proofs.YtmnlahbngbigdaaGreatDoor
set_option linter.unusedVariables false
set_option linter.unusedSimpArgs false
set_option linter.defProp false
set_option maxRecDepth 100000
set_option maxHeartbeats 0
namespace Go.Proofs.YtmnlahbngbigdaaGreatDoor
open Go.Sy Go.RowKit
abbrev e46B (X : FReader) (A0 : Option Addr) (C0 : Nat) : List Value := [str X.Reader.Row, i6 X.Reader.At, i6 X.Reader.Code, y8 X.Reader.c.last, i6 X.Reader.c.n, i6 X.f.ID, .bool X.f.Long, .bool X.f.Fast, .bool X.f.Remote, i6 X.f.Size, .slice A0 X.f.Data.length C0]
abbrev e24B (X : Frame) (A0 : Option Addr) (C0 : Nat) : List Value := [i6 X.ID, .bool X.Long, .bool X.Fast, .bool X.Remote, i6 X.Size, .slice A0 X.Data.length C0]
def bread_fun (u0 : List UInt8) (hpre : u0.length ≤ 62 ∧ isRow u0 = true)  (Z : Fz) (w : World)  (hZ : Z.on w) := f_ (bread_walk u0  Z w  hZ (bread_ok u0 hpre))
def bwrite_fun (u0 : Int) (u1 : Int) (hpre : 0 ≤ u1 ∧ u1 ≤ 64 ∧ 0 ≤ u0 ∧ u0 < 2 ^ 62)  (Z : Fz) (w : World)  (hZ : Z.on w) := f_ (bwrite_walk u0 u1  Z w  hZ (bwrite_ok u0 u1 hpre))
def bcheck_fun (u0 : List UInt8)  (Z : Fz) (w : World)  (hZ : Z.on w) := f_ (bcheck_walk u0  Z w  hZ (bcheck_ok u0))
def ksum_fun (u0 : Kind) (u1 : List UInt8) (hpre : okKindS u0 ∧ u1.length ≤ 1000000)  (Z : Fz) (w : World)  (hZ : Z.on w) := f_ (ksum_walk u0 u1  Z w  hZ (ksum_ok u0 u1 hpre))
theorem cnext_fun (u0 : Counter) (u1 : Int) (hpre : -1000000 ≤ u0.n ∧ u0.n ≤ 1000000 ∧ 0 ≤ u1 ∧ u1 ≤ 97) (b1 : Nat) (B : Nat) (w0 : World) (Z0 : Fz) (Rr : List Res) (Z : Fz) (w : World) (hM0 : Mem B [] w0 Z0 ((.row b1 [y8 u0.last, i6 u0.n] 42) :: Rr) Z w) (hZ : Z.on w) : Calls Tryz.prog 48 #[pt b1 0, y8 u1] w fun e w' => ∃ (Z' : Fz), e = .returned (.tuple #[y8 (cnextS u0 u1).1, .bool (cnextS u0 u1).2.1]) ∧ Fz.le Z Z' ∧ Mem B [] w0 Z0 ((.row b1 [y8 (cnextS u0 u1).2.2.last, i6 (cnextS u0 u1).2.2.n] 42) :: Rr) Z' w' :=
 (cnext_walk u0 u1 b1 B w0 Z0 Rr Z w hM0 hZ (cnext_ok u0 u1 hpre)).mono fun _ _ ⟨r, h0, he, hk, f0, hm⟩ => by subst hk; exact ⟨h0, he, f0, hm⟩
def cnextF_fun (u0 : FReader) (u1 : Int) (hpre : -1000000 ≤ u0.Reader.c.n ∧ u0.Reader.c.n ≤ 1000000 ∧ 0 ≤ u1 ∧ u1 ≤ 97) (b1 : Nat) (ao2 : Option Addr) (cap3 : Nat) (B : Nat) (w0 : World) (Z0 : Fz) (Rr : List Res) (Z : Fz) (w : World) (hs4 : SlR t8 Z ao2 cap3 u0.f.Data) (hM0 : Mem B [] w0 Z0 ((.row b1 [str u0.Reader.Row, i6 u0.Reader.At, i6 u0.Reader.Code, y8 u0.Reader.c.last, i6 u0.Reader.c.n, i6 u0.f.ID, .bool u0.f.Long, .bool u0.f.Fast, .bool u0.f.Remote, i6 u0.f.Size, .slice ao2 u0.f.Data.length cap3] 46) :: Rr) Z w) (hZ : Z.on w) := fc_ (cnextF_walk u0 u1 b1 ao2 cap3 B w0 Z0 Rr Z w hs4 hM0 hZ (cnextF_ok u0 u1 hpre))
def rbitF_fun (u0 : FReader) (hpre : 0 ≤ u0.Reader.At ∧ u0.Reader.At ≤ (u0.Reader.Row.length : Int) ∧ u0.Reader.Row.length ≤ 1000000) (b1 : Nat) (ao2 : Option Addr) (cap3 : Nat) (B : Nat) (w0 : World) (Z0 : Fz) (Rr : List Res) (Z : Fz) (w : World) (hs4 : SlR t8 Z ao2 cap3 u0.f.Data) (hM0 : Mem B [] w0 Z0 ((.row b1 [str u0.Reader.Row, i6 u0.Reader.At, i6 u0.Reader.Code, y8 u0.Reader.c.last, i6 u0.Reader.c.n, i6 u0.f.ID, .bool u0.f.Long, .bool u0.f.Fast, .bool u0.f.Remote, i6 u0.f.Size, .slice ao2 u0.f.Data.length cap3] 46) :: Rr) Z w) (hZ : Z.on w) := fc_ (rbitF_walk u0 b1 ao2 cap3 B w0 Z0 Rr Z w hs4 hM0 hZ (rbitF_ok u0 hpre))
def scontains_fun (u0 : List Int) (u1 : Int) (ao1 : Option Addr) (cap2 : Nat) (Z : Fz) (w : World) (hs3 : SlR t6 Z ao1 cap2 u0) (hZ : Z.on w) := f_ (scontains_walk u0 u1 ao1 cap2 Z w hs3 hZ (scontains_ok u0 u1))
def sindex_fun (u0 : List Int) (u1 : Int) (ao1 : Option Addr) (cap2 : Nat) (Z : Fz) (w : World) (hs3 : SlR t6 Z ao1 cap2 u0) (hZ : Z.on w) := f_ (sindex_walk u0 u1 ao1 cap2 Z w hs3 hZ (sindex_ok2 u0 u1))
theorem csum_walk (u0 : Int) (u1 : List UInt8)  (Z : Fz) (w : World)  (hZ : Z.on w) {K : ((List UInt8) × Int) → Prop} (hp : csum_vc u0 u1 K) : Calls Tryz.prog 24 #[i6 u0, str u1] w fun e w' => ∃ r : (List UInt8) × Int, e = .returned (.tuple #[str r.1, i6 r.2]) ∧ K r ∧ Below w.heap.size w w' := by
 refine enter0 Tryz.func24 rfl rfl (by kernel_rfl) ?_; intro a0 y; have i := Mem.start w Z hZ
 refine sqB y i [] [] [] ?_; intro a4 z
 refine s_ (sqH ?_); intro af A
 refine s1 z 8 (str u1) ?_; intro a7 B
 refine fc B i (bcheck_fun u1 _ _ i.fz) ?_; intro a9 aB C a
 refine s1 C 6 (i6 (bcheckS u1)) ?_; intro aC D
 apply A
 refine sqB D a [] [] [(11, .bool ((bcheckS u1) != 0))] ?_; intro aD c
 refine c_ c hp (fun _ ag => ?_) fun _ j => ?_
 ·
  refine sqB c a [] [] [(4, str []), (5, i6 (bcheckS u1))] ?_; intro aE ah
  exact r_ (h_ (ra2 ah (.tuple #[str [], i6 (bcheckS u1)]) ⟨([], (bcheckS u1)), rfl, ag, a.below⟩))
 refine k_ (s_ (sqH ?_)); intro ai E
 refine s1 c 13 (i6 u0) ?_; intro aF F
 refine s1 F 14 (.bool (decide (u0 < 0))) ?_; intro aG G
 refine s1 G 15 (.bool (decide (u0 < 0))) ?_; intro aH H
 have I := H.atom ((decide (u0 < 0)) == false) (by kernel_rfl)
 refine gp I 16 0 [] (decide (u0 < 0)) (i6 u0) rfl rfl ?_; intro aI J
 refine gcl J a (.agg #[i6 ckinds.1.Size, y6 ckinds.1.Poly, y6 ckinds.1.From, y6 ckinds.1.End, i6 ckinds.2.1.Size, y6 ckinds.2.1.Poly, y6 ckinds.2.1.From, y6 ckinds.2.1.End, i6 ckinds.2.2.1.Size, y6 ckinds.2.2.1.Poly, y6 ckinds.2.2.1.From, y6 ckinds.2.2.1.End, i6 ckinds.2.2.2.1.Size, y6 ckinds.2.2.2.1.Poly, y6 ckinds.2.2.2.1.From, y6 ckinds.2.2.2.1.End, i6 ckinds.2.2.2.2.Size, y6 ckinds.2.2.2.2.Poly, y6 ckinds.2.2.2.2.From, y6 ckinds.2.2.2.2.End]) 52 #[] (m := 0) (cj := []) (bj := decide (u0 < 0)) rfl rfl (by kernel_rfl) rfl (by kernel_rfl) (by kernel_rfl) (by kernel_rfl) (fun _ => by kernel_rfl) (fun hg => ckinds_fun  _ _ a.fz) ?_; intro aJ aK L d
 refine gp L 18 0 [] (decide (u0 < 0)) (i6 5) rfl rfl ?_; intro aL M
 refine gp M 19 0 [] (decide (u0 < 0)) (.bool (decide (u0 ≥ 5))) rfl rfl ?_; intro aM n
 refine u_ n (.bool ((decide (u0 < 0)) || (decide (u0 ≥ 5)))) (pk_or n (g := []) (m := 0) (b := decide (u0 < 0)) (v := decide (u0 ≥ 5)) rfl (by kernel_rfl) (by kernel_rfl) (by kernel_rfl) rfl) ?_; intro N f
 apply E
 refine c_ f j (fun _ aj => ?_) fun _ al => ?_
 ·
  have O : Fr 30 [] [] N := f.reg
  refine sqB O d [] [] [(4, str []), (5, i6 8)] ?_; intro aN ak
  exact r_ (h_ (ra2 ak (.tuple #[str [], i6 8]) ⟨([], 8), rfl, aj, d.below⟩))
 apply k_
 have P : Fr 30 [] [⟨0, [], i6 u0⟩, ⟨1, [], str u1⟩] N := f.reg
 refine sqH ?_; intro am Q
 refine fc P d (ckinds_fun  _ _ d.fz) ?_; intro aO aP R S
 refine s1 R 22 (i6 u0) ?_; intro aQ p
 obtain ⟨an, ao⟩ := al
 have hix : ∀ x : Int, 0 ≤ x ∧ x < 5 → x = 0 ∨ x = 1 ∨ x = 2 ∨ x = 3 ∨ x = 4 := by intro x hx; omega
 refine u_ p (.agg #[i6 (([ckinds.1.Size, ckinds.2.1.Size, ckinds.2.2.1.Size, ckinds.2.2.2.1.Size, ckinds.2.2.2.2.Size] : List Int).getD u0.toNat 0), y6 (([ckinds.1.Poly, ckinds.2.1.Poly, ckinds.2.2.1.Poly, ckinds.2.2.2.1.Poly, ckinds.2.2.2.2.Poly] : List Int).getD u0.toNat 0), y6 (([ckinds.1.From, ckinds.2.1.From, ckinds.2.2.1.From, ckinds.2.2.2.1.From, ckinds.2.2.2.2.From] : List Int).getD u0.toNat 0), y6 (([ckinds.1.End, ckinds.2.1.End, ckinds.2.2.1.End, ckinds.2.2.2.1.End, ckinds.2.2.2.2.End] : List Int).getD u0.toNat 0)]) ((by generalize u0 = ix at *; rcases hix _ an with rfl | rfl | rfl | rfl | rfl <;> exact p0 p (by kernel_rfl))) ?_; intro aR T
 refine nw T S pb [i6 0, y6 0, y6 0, y6 0] 83 ?_; intro h ap aS q U
 refine sx q U 0 [i6 (([ckinds.1.Size, ckinds.2.1.Size, ckinds.2.2.1.Size, ckinds.2.2.2.1.Size, ckinds.2.2.2.2.Size] : List Int).getD u0.toNat 0), y6 (([ckinds.1.Poly, ckinds.2.1.Poly, ckinds.2.2.1.Poly, ckinds.2.2.2.1.Poly, ckinds.2.2.2.2.Poly] : List Int).getD u0.toNat 0), y6 (([ckinds.1.From, ckinds.2.1.From, ckinds.2.2.1.From, ckinds.2.2.2.1.From, ckinds.2.2.2.2.From] : List Int).getD u0.toNat 0), y6 (([ckinds.1.End, ckinds.2.1.End, ckinds.2.2.1.End, ckinds.2.2.2.1.End, ckinds.2.2.2.2.End] : List Int).getD u0.toNat 0)] 0 ?_; intro aq V
 have W : Mem w.heap.size [] w Z [.row h [i6 (([ckinds.1.Size, ckinds.2.1.Size, ckinds.2.2.1.Size, ckinds.2.2.2.1.Size, ckinds.2.2.2.2.Size] : List Int).getD u0.toNat 0), y6 (([ckinds.1.Poly, ckinds.2.1.Poly, ckinds.2.2.1.Poly, ckinds.2.2.2.1.Poly, ckinds.2.2.2.2.Poly] : List Int).getD u0.toNat 0), y6 (([ckinds.1.From, ckinds.2.1.From, ckinds.2.2.1.From, ckinds.2.2.2.1.From, ckinds.2.2.2.2.From] : List Int).getD u0.toNat 0), y6 (([ckinds.1.End, ckinds.2.1.End, ckinds.2.2.1.End, ckinds.2.2.2.1.End, ckinds.2.2.2.2.End] : List Int).getD u0.toNat 0)] 83] Z aq := V
 apply Q
 have s : Fr 30 [] [⟨1, [], str u1⟩, ⟨7, [], pt h 0⟩] ap := q.reg
 refine sqQH mixed (by kernel_rfl) W ?_; intro ar X
 refine qu_ s (.agg #[i6 (([ckinds.1.Size, ckinds.2.1.Size, ckinds.2.2.1.Size, ckinds.2.2.2.1.Size, ckinds.2.2.2.2.Size] : List Int).getD u0.toNat 0), y6 (([ckinds.1.Poly, ckinds.2.1.Poly, ckinds.2.2.1.Poly, ckinds.2.2.2.1.Poly, ckinds.2.2.2.2.Poly] : List Int).getD u0.toNat 0), y6 (([ckinds.1.From, ckinds.2.1.From, ckinds.2.2.1.From, ckinds.2.2.2.1.From, ckinds.2.2.2.2.From] : List Int).getD u0.toNat 0), y6 (([ckinds.1.End, ckinds.2.1.End, ckinds.2.2.1.End, ckinds.2.2.2.1.End, ckinds.2.2.2.2.End] : List Int).getD u0.toNat 0)]) (fun v81 hC => lda s hC 0 (g := []) (b := h) (off := 0) (k := 4) (cs := [i6 (([ckinds.1.Size, ckinds.2.1.Size, ckinds.2.2.1.Size, ckinds.2.2.2.1.Size, ckinds.2.2.2.2.Size] : List Int).getD u0.toNat 0), y6 (([ckinds.1.Poly, ckinds.2.1.Poly, ckinds.2.2.1.Poly, ckinds.2.2.2.1.Poly, ckinds.2.2.2.2.Poly] : List Int).getD u0.toNat 0), y6 (([ckinds.1.From, ckinds.2.1.From, ckinds.2.2.1.From, ckinds.2.2.2.1.From, ckinds.2.2.2.2.From] : List Int).getD u0.toNat 0), y6 (([ckinds.1.End, ckinds.2.1.End, ckinds.2.2.1.End, ckinds.2.2.2.1.End, ckinds.2.2.2.2.End] : List Int).getD u0.toNat 0)]) (vs := [i6 (([ckinds.1.Size, ckinds.2.1.Size, ckinds.2.2.1.Size, ckinds.2.2.2.1.Size, ckinds.2.2.2.2.Size] : List Int).getD u0.toNat 0), y6 (([ckinds.1.Poly, ckinds.2.1.Poly, ckinds.2.2.1.Poly, ckinds.2.2.2.1.Poly, ckinds.2.2.2.2.Poly] : List Int).getD u0.toNat 0), y6 (([ckinds.1.From, ckinds.2.1.From, ckinds.2.2.1.From, ckinds.2.2.2.1.From, ckinds.2.2.2.2.From] : List Int).getD u0.toNat 0), y6 (([ckinds.1.End, ckinds.2.1.End, ckinds.2.2.1.End, ckinds.2.2.2.1.End, ckinds.2.2.2.2.End] : List Int).getD u0.toNat 0)]) (ty := 83) rfl (by kernel_rfl) (by kernel_rfl) (by kernel_rfl) (by kernel_rfl) (by kernel_rfl) rfl) ?_; intro aT Y
 refine q1 Y 25 (str u1) ?_; intro aU aa
 obtain ⟨au, av⟩ := ao
 refine qcl aa (y6 (ksumS (⟨([ckinds.1.Size, ckinds.2.1.Size, ckinds.2.2.1.Size, ckinds.2.2.2.1.Size, ckinds.2.2.2.2.Size] : List Int).getD u0.toNat 0, ([ckinds.1.Poly, ckinds.2.1.Poly, ckinds.2.2.1.Poly, ckinds.2.2.2.1.Poly, ckinds.2.2.2.2.Poly] : List Int).getD u0.toNat 0, ([ckinds.1.From, ckinds.2.1.From, ckinds.2.2.1.From, ckinds.2.2.2.1.From, ckinds.2.2.2.2.From] : List Int).getD u0.toNat 0, ([ckinds.1.End, ckinds.2.1.End, ckinds.2.2.1.End, ckinds.2.2.2.1.End, ckinds.2.2.2.2.End] : List Int).getD u0.toNat 0⟩ : Kind) u1)) 54 #[.agg #[i6 (([ckinds.1.Size, ckinds.2.1.Size, ckinds.2.2.1.Size, ckinds.2.2.2.1.Size, ckinds.2.2.2.2.Size] : List Int).getD u0.toNat 0), y6 (([ckinds.1.Poly, ckinds.2.1.Poly, ckinds.2.2.1.Poly, ckinds.2.2.2.1.Poly, ckinds.2.2.2.2.Poly] : List Int).getD u0.toNat 0), y6 (([ckinds.1.From, ckinds.2.1.From, ckinds.2.2.1.From, ckinds.2.2.2.1.From, ckinds.2.2.2.2.From] : List Int).getD u0.toNat 0), y6 (([ckinds.1.End, ckinds.2.1.End, ckinds.2.2.1.End, ckinds.2.2.2.1.End, ckinds.2.2.2.2.End] : List Int).getD u0.toNat 0)], str u1] (nog rfl _) rfl (by kernel_rfl) (fun _ => by kernel_rfl) (qfc fun w hC => ksum_fun (⟨([ckinds.1.Size, ckinds.2.1.Size, ckinds.2.2.1.Size, ckinds.2.2.2.1.Size, ckinds.2.2.2.2.Size] : List Int).getD u0.toNat 0, ([ckinds.1.Poly, ckinds.2.1.Poly, ckinds.2.2.1.Poly, ckinds.2.2.2.1.Poly, ckinds.2.2.2.2.Poly] : List Int).getD u0.toNat 0, ([ckinds.1.From, ckinds.2.1.From, ckinds.2.2.1.From, ckinds.2.2.2.1.From, ckinds.2.2.2.2.From] : List Int).getD u0.toNat 0, ([ckinds.1.End, ckinds.2.1.End, ckinds.2.2.1.End, ckinds.2.2.2.1.End, ckinds.2.2.2.2.End] : List Int).getD u0.toNat 0⟩ : Kind) u1 au _ _ hC.fz) ?_; intro aV ab
 refine q1 ab 27 (pt h 0) ?_; intro aW u
 refine ql_ u 0 0 (i6 (([ckinds.1.Size, ckinds.2.1.Size, ckinds.2.2.1.Size, ckinds.2.2.2.1.Size, ckinds.2.2.2.2.Size] : List Int).getD u0.toNat 0)) rfl rfl ?_; intro aX ac
 obtain ⟨aw, ax⟩ := av
 refine qcl ac (str (bwriteS (ksumS (⟨([ckinds.1.Size, ckinds.2.1.Size, ckinds.2.2.1.Size, ckinds.2.2.2.1.Size, ckinds.2.2.2.2.Size] : List Int).getD u0.toNat 0, ([ckinds.1.Poly, ckinds.2.1.Poly, ckinds.2.2.1.Poly, ckinds.2.2.2.1.Poly, ckinds.2.2.2.2.Poly] : List Int).getD u0.toNat 0, ([ckinds.1.From, ckinds.2.1.From, ckinds.2.2.1.From, ckinds.2.2.2.1.From, ckinds.2.2.2.2.From] : List Int).getD u0.toNat 0, ([ckinds.1.End, ckinds.2.1.End, ckinds.2.2.1.End, ckinds.2.2.2.1.End, ckinds.2.2.2.2.End] : List Int).getD u0.toNat 0⟩ : Kind) u1) (([ckinds.1.Size, ckinds.2.1.Size, ckinds.2.2.1.Size, ckinds.2.2.2.1.Size, ckinds.2.2.2.2.Size] : List Int).getD u0.toNat 0))) 53 #[y6 (ksumS (⟨([ckinds.1.Size, ckinds.2.1.Size, ckinds.2.2.1.Size, ckinds.2.2.2.1.Size, ckinds.2.2.2.2.Size] : List Int).getD u0.toNat 0, ([ckinds.1.Poly, ckinds.2.1.Poly, ckinds.2.2.1.Poly, ckinds.2.2.2.1.Poly, ckinds.2.2.2.2.Poly] : List Int).getD u0.toNat 0, ([ckinds.1.From, ckinds.2.1.From, ckinds.2.2.1.From, ckinds.2.2.2.1.From, ckinds.2.2.2.2.From] : List Int).getD u0.toNat 0, ([ckinds.1.End, ckinds.2.1.End, ckinds.2.2.1.End, ckinds.2.2.2.1.End, ckinds.2.2.2.2.End] : List Int).getD u0.toNat 0⟩ : Kind) u1), i6 (([ckinds.1.Size, ckinds.2.1.Size, ckinds.2.2.1.Size, ckinds.2.2.2.1.Size, ckinds.2.2.2.2.Size] : List Int).getD u0.toNat 0)] (nog rfl _) rfl (by kernel_rfl) (fun _ => by kernel_rfl) (qfc fun w hC => bwrite_fun (ksumS (⟨([ckinds.1.Size, ckinds.2.1.Size, ckinds.2.2.1.Size, ckinds.2.2.2.1.Size, ckinds.2.2.2.2.Size] : List Int).getD u0.toNat 0, ([ckinds.1.Poly, ckinds.2.1.Poly, ckinds.2.2.1.Poly, ckinds.2.2.2.1.Poly, ckinds.2.2.2.2.Poly] : List Int).getD u0.toNat 0, ([ckinds.1.From, ckinds.2.1.From, ckinds.2.2.1.From, ckinds.2.2.2.1.From, ckinds.2.2.2.2.From] : List Int).getD u0.toNat 0, ([ckinds.1.End, ckinds.2.1.End, ckinds.2.2.1.End, ckinds.2.2.2.1.End, ckinds.2.2.2.2.End] : List Int).getD u0.toNat 0⟩ : Kind) u1) (([ckinds.1.Size, ckinds.2.1.Size, ckinds.2.2.1.Size, ckinds.2.2.2.1.Size, ckinds.2.2.2.2.Size] : List Int).getD u0.toNat 0) aw _ _ hC.fz) ?_; intro aY ad
 refine q1 ad 4 (str (bwriteS (ksumS (⟨([ckinds.1.Size, ckinds.2.1.Size, ckinds.2.2.1.Size, ckinds.2.2.2.1.Size, ckinds.2.2.2.2.Size] : List Int).getD u0.toNat 0, ([ckinds.1.Poly, ckinds.2.1.Poly, ckinds.2.2.1.Poly, ckinds.2.2.2.1.Poly, ckinds.2.2.2.2.Poly] : List Int).getD u0.toNat 0, ([ckinds.1.From, ckinds.2.1.From, ckinds.2.2.1.From, ckinds.2.2.2.1.From, ckinds.2.2.2.2.From] : List Int).getD u0.toNat 0, ([ckinds.1.End, ckinds.2.1.End, ckinds.2.2.1.End, ckinds.2.2.2.1.End, ckinds.2.2.2.2.End] : List Int).getD u0.toNat 0⟩ : Kind) u1) (([ckinds.1.Size, ckinds.2.1.Size, ckinds.2.2.1.Size, ckinds.2.2.2.1.Size, ckinds.2.2.2.2.Size] : List Int).getD u0.toNat 0))) ?_; intro aZ ae
 refine q1 ae 5 (i6 0) ?_; intro a1 ay
 refine qnl (X _ ?_); intro a2 az
 exact r_ (ra2 ay (.tuple #[str (bwriteS (ksumS (⟨([ckinds.1.Size, ckinds.2.1.Size, ckinds.2.2.1.Size, ckinds.2.2.2.1.Size, ckinds.2.2.2.2.Size] : List Int).getD u0.toNat 0, ([ckinds.1.Poly, ckinds.2.1.Poly, ckinds.2.2.1.Poly, ckinds.2.2.2.1.Poly, ckinds.2.2.2.2.Poly] : List Int).getD u0.toNat 0, ([ckinds.1.From, ckinds.2.1.From, ckinds.2.2.1.From, ckinds.2.2.2.1.From, ckinds.2.2.2.2.From] : List Int).getD u0.toNat 0, ([ckinds.1.End, ckinds.2.1.End, ckinds.2.2.1.End, ckinds.2.2.2.1.End, ckinds.2.2.2.2.End] : List Int).getD u0.toNat 0⟩ : Kind) u1) (([ckinds.1.Size, ckinds.2.1.Size, ckinds.2.2.1.Size, ckinds.2.2.2.1.Size, ckinds.2.2.2.2.Size] : List Int).getD u0.toNat 0)), i6 0]) ⟨((bwriteS (ksumS (⟨([ckinds.1.Size, ckinds.2.1.Size, ckinds.2.2.1.Size, ckinds.2.2.2.1.Size, ckinds.2.2.2.2.Size] : List Int).getD u0.toNat 0, ([ckinds.1.Poly, ckinds.2.1.Poly, ckinds.2.2.1.Poly, ckinds.2.2.2.1.Poly, ckinds.2.2.2.2.Poly] : List Int).getD u0.toNat 0, ([ckinds.1.From, ckinds.2.1.From, ckinds.2.2.1.From, ckinds.2.2.2.1.From, ckinds.2.2.2.2.From] : List Int).getD u0.toNat 0, ([ckinds.1.End, ckinds.2.1.End, ckinds.2.2.1.End, ckinds.2.2.2.1.End, ckinds.2.2.2.2.End] : List Int).getD u0.toNat 0⟩ : Kind) u1) (([ckinds.1.Size, ckinds.2.1.Size, ckinds.2.2.1.Size, ckinds.2.2.2.1.Size, ckinds.2.2.2.2.Size] : List Int).getD u0.toNat 0)), 0), rfl, ax, az.below⟩)
theorem bof_walk (u0 : List Int) (ao1 : Option Addr) (cap2 : Nat) (Z : Fz) (w : World) (hs3 : SlR t8 Z ao1 cap2 u0) (hZ : Z.on w) {K : ((List UInt8) × Int) → Prop} (hp : bof_vc u0 K) : Calls Tryz.prog 57 #[.slice ao1 u0.length cap2] w fun e w' => ∃ r : (List UInt8) × Int, e = .returned (.tuple #[str r.1, i6 r.2]) ∧ K r ∧ Below w.heap.size w w' := by
 refine enter0 Tryz.func57 rfl rfl (by kernel_rfl) ?_; intro a0 u; have g := Mem.start w Z hZ
 have hzB := Go.Sy.zB hZ
 have j := hp (hs3.small)
 refine sqB u g [] [] [] ?_; intro a8 v
 refine s_ (sqB v g [] [] [(9, .bool (decide ((u0.length : Int) > 125)))] ?_); intro aM h
 refine c_ h j (fun _ ae => ?_) fun _ ag => ?_
 ·
  refine sqB h g [] [] [(2, str []), (3, i6 2)] ?_; intro aN af
  exact r_ (h_ (ra2 af (.tuple #[str [], i6 2]) ⟨([], 2), rfl, ae, g.below⟩))
 refine k_ (sqH ?_); intro ah x
 refine nw h g pb [.pointer none, .slice none 0 0] 123 ?_; intro a aO ai y n
 apply x
 refine s_ (sqB y n [] [] [(10, .slice ao1 u0.length cap2), (11, i6 (u0.length : Int)), (12, i6 0)] ?_); intro z A
 apply b_
 have B : Fr 22 [] [⟨4, [], pt a 0⟩, ⟨10, [], .slice ao1 u0.length cap2⟩, ⟨11, [], i6 (u0.length : Int)⟩, ⟨12, [], i6 0⟩] z := A.reg
 have C : Mem w.heap.size [] w Z [.row a [.pointer none, .slice none ([] : List UInt8).length 0] 123, .own tyByte 5 none 0 ([] : List UInt8)] Z ai := n.bldNil 5
 have D : Fr 22 [] [⟨4, [], pt a 0⟩, ⟨10, [], .slice ao1 u0.length cap2⟩, ⟨11, [], i6 (u0.length : Int)⟩, ⟨12, [], i6 0⟩] z := B.reg
 obtain ⟨aj, ak, al, am⟩ := ag
 refine lp (ι := Int × (List UInt8) × Value × (Option Addr) × Nat) (fun s => [⟨4, [], pt a 0⟩, ⟨10, [], .slice ao1 u0.length cap2⟩, ⟨11, [], i6 (u0.length : Int)⟩, ⟨12, [], i6 s.1⟩]) (fun s => [.row a [s.2.2.1, .slice s.2.2.2.1 s.2.1.length s.2.2.2.2] 123, .own tyByte 5 s.2.2.2.1 s.2.2.2.2 s.2.1]) (fun s => Z) (fun s => aj s.1 s.2.1 ∧ (s.2.2.1 = .pointer none ∨ s.2.2.1 = pt a 0)) (fun s => ak s.1 s.2.1) ⟨0, ([] : List UInt8), (.pointer none), none, 0⟩ ⟨al, (.inl rfl)⟩ (by exact D.reg) (by exact C) ?_
 rintro ⟨f, c, an, E, F⟩ ⟨ao, G⟩ ap aq H I
 have l := am f c ao
 refine sqB H I [] [] [(13, .bool (decide (f < (u0.length : Int))))] ?_; intro aP i
 refine s_ (c_ i l (fun _ ar => ?_) fun _ aH => ?_)
 ·
  refine k_ (s_ (b_ (sqH ?_))); intro au L
  obtain ⟨av, M⟩ := ar
  refine ix_ i hs3 f av .i64 5 1 ?_; intro aQ aR aw b aS ax ay az N
  have aA := M b ax
  obtain rfl : aw = ([y8 b] : List Value) := az
  refine z1 N I 15 ay 0 (y8 b) rfl ?_; intro aT O
  refine s1 O 6 (y8 b) ?_; intro aU P
  apply L
  refine rgH ?_; intro aB Q
  refine bt P I 2 [] [] [(17, y6 (wu64 b))] ?_; intro aV R
  obtain ⟨aC, aD⟩ := aA
  refine fc R I (bwrite_fun (wu64 b) 8 aC _ _ I.fz) ?_; intro aW aX S U
  obtain ⟨aE, V⟩ := aD
  refine ck S 84 #[pt a 0, str (bwriteS (wu64 b) 8)] ?_
  refine (Go.Sy.bld_write Tryz.lays166 Tryz.lays166X U hzB G aE).mono ?_; rintro _ aF ⟨p, q, rfl, hm⟩; refine ⟨_, rfl, ?_⟩; intro aY W; have X := hm
  have Y : Mem w.heap.size [] w Z [.row a [pt a 0, .slice p (c ++ (bwriteS (wu64 b) 8)).length q] 123, .own tyByte 5 p q (c ++ (bwriteS (wu64 b) 8))] Z aF := X
  apply Q
  refine j_ (t_ (rgB W Y [] [] [(12, i6 (w64 (f + 1)))] ?_)); intro aZ aG
  exact d_ ⟨⟨w64 (f + 1), c ++ (bwriteS (wu64 b) 8), (pt a 0), p, q⟩, ⟨V.1, (.inr rfl)⟩, V.2, (aG.reg).anyβ _ (by kernel_rfl), Y.kp⟩
 refine x_ (y_ (y_ (z_ (t_ (sqH ?_))))); intro aI aa
 refine ck i 85 #[pt a 0] ?_
 refine (Go.Sy.bld_string Tryz.lays169 Tryz.lays169X I hzB G).mono ?_; rintro _ aJ ⟨rfl, hm⟩; refine ⟨_, rfl, ?_⟩; intro a1 ab; have ac := hm
 have ad : Mem w.heap.size [] w Z [] Z aJ := ac
 refine bt ab ad 2 [] [] [(2, str c), (3, i6 0)] ?_; intro a2 aK
 apply aa
 exact r_ (ra2 aK (.tuple #[str c, i6 0]) ⟨(c, 0), rfl, aH, ad.below⟩)
theorem rtakeF_walk (u0 : FReader) (u1 : Int) (b1 : Nat) (ao2 : Option Addr) (cap3 : Nat) (B : Nat) (w0 : World) (Z0 : Fz) (Rr : List Res) (Z : Fz) (w : World) (hs4 : SlR t8 Z ao2 cap3 u0.f.Data) (hM0 : Mem B [] w0 Z0 ((.row b1 [str u0.Reader.Row, i6 u0.Reader.At, i6 u0.Reader.Code, y8 u0.Reader.c.last, i6 u0.Reader.c.n, i6 u0.f.ID, .bool u0.f.Long, .bool u0.f.Fast, .bool u0.f.Remote, i6 u0.f.Size, .slice ao2 u0.f.Data.length cap3] 46) :: Rr) Z w) (hZ : Z.on w) {K : ((List UInt8) × FReader) → Prop} (hp : rtakeF_vc u0 u1 K) : Calls Tryz.prog 21 #[pt b1 0, i6 u1] w fun e w' => ∃ (r : (List UInt8) × FReader) (ao1001 : Option Addr) (cap1002 : Nat) (Z' : Fz), e = .returned (str r.1) ∧ K r ∧ Fz.le Z Z' ∧ SlR t8 Z' ao1001 cap1002 r.2.f.Data ∧ Mem B [] w0 Z0 ((.row b1 [str r.2.Reader.Row, i6 r.2.Reader.At, i6 r.2.Reader.Code, y8 r.2.Reader.c.last, i6 r.2.Reader.c.n, i6 r.2.f.ID, .bool r.2.f.Long, .bool r.2.f.Fast, .bool r.2.f.Remote, i6 r.2.f.Size, .slice ao1001 r.2.f.Data.length cap1002] 46) :: Rr) Z' w' := by
 refine enter0 Tryz.func21 rfl rfl (by kernel_rfl) ?_; intro a0 aB; have l := Fz.le.refl Z
 have bN := hp (hs4.small)
 refine sqB aB hM0 [] [] [] ?_; intro a7 aC
 refine sqB aC hM0 [] [] [(5, .slice none 0 0)] ?_; intro cJ aD
 refine s_ (sqB aD hM0 [] [] [(10, i6 u1), (11, i6 0)] ?_); intro aE aF
 apply b_
 have aG : Fr 61 [] [⟨0, [], pt b1 0⟩, ⟨5, [], .slice none 0 0⟩, ⟨10, [], i6 u1⟩, ⟨11, [], i6 0⟩] aE := aF.reg
 have aH : Mem B [] w0 Z0 ((.own t8 5 none 0 ([] : List Int)) :: (.row b1 (e46B u0 ao2 cap3) 46) :: Rr) Z w := hM0.addNil t8 5 (by decide)
 have aI : Fr 61 [] [⟨0, [], pt b1 0⟩, ⟨5, [], .slice none ([] : List Int).length 0⟩, ⟨10, [], i6 u1⟩, ⟨11, [], i6 0⟩] aE := aG.reg
 obtain ⟨bO, bP, bQ, bR⟩ := bN
 refine lp (ι := (List Int) × Int × FReader × (Option Addr) × Nat × (Option Addr) × Nat × Fz) (fun s => [⟨0, [], pt b1 0⟩, ⟨5, [], .slice s.2.2.2.1 s.1.length s.2.2.2.2.1⟩, ⟨10, [], i6 u1⟩, ⟨11, [], i6 s.2.1⟩]) (fun s => ((.own t8 5 s.2.2.2.1 s.2.2.2.2.1 s.1) :: (.row b1 [str s.2.2.1.Reader.Row, i6 s.2.2.1.Reader.At, i6 s.2.2.1.Reader.Code, y8 s.2.2.1.Reader.c.last, i6 s.2.2.1.Reader.c.n, i6 s.2.2.1.f.ID, .bool s.2.2.1.f.Long, .bool s.2.2.1.f.Fast, .bool s.2.2.1.f.Remote, i6 s.2.2.1.f.Size, .slice s.2.2.2.2.2.1 s.2.2.1.f.Data.length s.2.2.2.2.2.2.1] 46) :: Rr)) (fun s => s.2.2.2.2.2.2.2) (fun s => bO s.1 s.2.1 s.2.2.1 ∧ SlR t8 s.2.2.2.2.2.2.2 s.2.2.2.2.2.1 s.2.2.2.2.2.2.1 s.2.2.1.f.Data ∧ Fz.le Z s.2.2.2.2.2.2.2) (fun s => bP s.1 s.2.1 s.2.2.1) ⟨([] : List Int), 0, u0, none, 0, ao2, cap3, Z⟩ ⟨bQ, hs4, Fz.le.refl _⟩ (by exact aI.reg) (by exact aH) ?_
 rintro ⟨i, u, k, F, G, Y, aa, al⟩ ⟨bS, o, m⟩ bT bU aJ aK
 have ab := bR i u k bS
 replace l := Fz.le.trans l m
 refine sqB aJ aK [] [] [(12, .bool (decide (u < u1)))] ?_; intro cL P
 refine s_ (c_ P ab (fun _ bV => ?_) fun _ ak => ?_)
 ·
  refine k_ (s_ (b_ (sqH ?_))); intro bW aM
  refine s1 P 13 (pt b1 0) ?_; intro cM aN
  obtain ⟨bX, aO⟩ := bV
  refine ck aN 47 #[pt b1 0] ?_
  obtain ⟨a, bY, aP⟩ := hxq aO
  have j := rbitF_fun k bX b1 Y aa _ _ _ _ _ _ o (aK.perm (pk 1 rfl)) aK.fz; rw [bY] at j; refine j.mono ?_; rintro _ bZ ⟨ac, ad, an, rfl, ae, v, hm⟩; refine ⟨_, rfl, ?_⟩; intro cN aQ; have aR := hm
  replace m := m.mono ae
  replace l := Fz.le.trans l ae
  have N : Mem B [] w0 Z0 ((.row b1 (e46B a.2 ac ad) 46) :: (.own t8 5 F G i) :: Rr) an bZ := aR
  have af := aP (v.small)
  refine s1 aQ 6 (y8 a.1) ?_; intro cO aS
  apply aM
  refine s_ (sqB aS N [0] [] [(19, .bool (a.2.Reader.Code != 0))] ?_); intro cP Q
  refine c_ Q af (fun _ b0 => ?_) fun _ b3 => ?_
  ·
   refine sqB Q N [] [] [(4, str [])] ?_; intro cQ b2
   exact r_ (h_ (i_ (h_ (h_ (i_ (h_ (ra1 b2 (str []) ⟨([], a.2), ac, ad, an, rfl, b0, l, v, N.kp⟩)))))))
  refine k_ (sqH ?_); intro b4 aT
  refine bt Q N 2 [] [] [(20, .slice F i.length G), (21, y8 a.1)] ?_; intro cR aU
  refine nw aU N (fun b => .slice (sm b) 1 1) [y8 a.1] 5 ?_; intro H cS cT aV ar
  obtain ⟨b5, b6⟩ := b3
  refine ap aV ar 2 (T := t8) (xs := i) (ys := [a.1]) (ao := F) (cap := G) (ao2 := (sm H)) (cap2 := 1) (t := 22) (e := 5) (bytes := 1) (nog rfl _) rfl (by kernel_rfl) rfl (by kernel_rfl) (by kernel_rfl) (by kernel_rfl) rfl (Src.row ar 0 rfl (RepAll.one (T := t8) (x := a.1) rfl)) b5 ?_; intro y z cU b7 cV aW aX
  have ag : Mem B [] w0 Z0 ((.row H [y8 a.1] 5) :: (.row b1 (e46B a.2 ac ad) 46) :: (.own t8 5 y z (i ++ [a.1])) :: Rr) an b7 := aX
  refine s1 aW 5 (.slice y (i ++ [a.1]).length z) ?_; intro cW aY
  apply aT
  refine sqH ?_; intro b8 aZ
  refine bt aY ag 4 [] [] [(27, pt b1 3), (28, y8 a.1)] ?_; intro cX a1
  obtain ⟨b9, a2⟩ := b6
  refine ck a1 48 #[pt b1 3, y8 a.1] ?_
  obtain ⟨h, ca, a3⟩ := hxq a2
  have j := cnextF_fun a.2 a.1 b9 b1 ac ad _ _ _ _ _ _ v (ag.perm (pk 1 rfl)) ag.fz; rw [ca] at j; refine j.mono ?_; rintro _ cb ⟨au, av, a4, rfl, R, D, hm⟩; refine ⟨_, rfl, ?_⟩; intro cY a5; have a6 := hm
  replace m := m.mono R
  have I : Mem B [] w0 Z0 ((.row b1 (e46B h.2.2 au av) 46) :: (.row H [y8 a.1] 5) :: (.own t8 5 y z (i ++ [a.1])) :: Rr) a4 cb := a6
  have ah := a3 (D.small)
  refine bt a5 I 5 [] [] [(7, y8 h.1), (8, .bool h.2.1)] ?_; intro cZ a8
  apply aZ
  refine sqB a8 I [] [] [(32, .bool h.2.1)] ?_; intro c0 S
  refine c_ S ah (fun _ cc => ?_) fun _ bK => ?_
  ·
   refine s_ (sqH ?_); intro ce a9
   refine s1 S 33 (pt b1 0) ?_; intro c1 ba
   obtain ⟨cf, bb⟩ := cc
   refine ck ba 47 #[pt b1 0] ?_
   obtain ⟨d, cg, bc⟩ := hxq bb
   have j := rbitF_fun h.2.2 cf b1 au av _ _ _ _ _ _ D I I.fz; rw [cg] at j; refine j.mono ?_; rintro _ ch ⟨U, V, bd, rfl, O, J, hm⟩; refine ⟨_, rfl, ?_⟩; intro c2 be; have bf := hm
   replace m := m.mono O
   have E : Mem B [] w0 Z0 ((.row b1 (e46B d.2 U V) 46) :: (.row H [y8 a.1] 5) :: (.own t8 5 y z (i ++ [a.1])) :: Rr) bd ch := bf
   have ai := bc (J.small)
   refine s1 be 9 (y8 d.1) ?_; intro c3 bg
   apply a9
   refine sqB bg E [0] [] [(44, .bool ((d.2.Reader.Code == 0) && (d.1 != h.1)))] ?_; intro c4 W
   refine c_ W ai (fun _ ci => ?_) fun _ ct => ?_
   ·
    refine rgH ?_; intro cj bh
    refine bt W E 3 [] [] [(47, pt b1 2)] ?_; intro c5 ay
    refine sx ay E 0 [str d.2.Reader.Row, i6 d.2.Reader.At, i6 5, y8 d.2.Reader.c.last, i6 d.2.Reader.c.n, i6 d.2.f.ID, .bool d.2.f.Long, .bool d.2.f.Fast, .bool d.2.f.Remote, i6 d.2.f.Size, .slice U d.2.f.Data.length V] 2 ?_; intro cl bi
    have aj : Mem B [] w0 Z0 ((.row b1 [str d.2.Reader.Row, i6 d.2.Reader.At, i6 5, y8 d.2.Reader.c.last, i6 d.2.Reader.c.n, i6 d.2.f.ID, .bool d.2.f.Long, .bool d.2.f.Fast, .bool d.2.f.Remote, i6 d.2.f.Size, .slice U d.2.f.Data.length V] 46) :: (.row H [y8 a.1] 5) :: (.own t8 5 y z (i ++ [a.1])) :: Rr) bd cl := bi
    apply bh
    refine t_ (rgH ?_); intro cm bj
    refine bt ay aj 4 [] [] [(50, pt b1 3), (51, y8 h.1)] ?_; intro c6 bk
    obtain ⟨cn, bl⟩ := ci
    refine ck bk 48 #[pt b1 3, y8 h.1] ?_
    obtain ⟨p, co, bm⟩ := hxq bl
    have j := cnextF_fun (⟨(⟨d.2.Reader.Row, d.2.Reader.At, 5, d.2.Reader.c⟩ : Reader), d.2.f⟩ : FReader) h.1 cn b1 U V _ _ _ _ _ _ J aj aj.fz; rw [co] at j; refine j.mono ?_; rintro _ cp ⟨bn, bo, bp, rfl, L, bq, hm⟩; refine ⟨_, rfl, ?_⟩; intro cq br; have bs := hm
    replace m := m.mono L
    have bu : Mem B [] w0 Z0 ((.row b1 (e46B p.2.2 bn bo) 46) :: (.row H [y8 a.1] 5) :: (.own t8 5 y z (i ++ [a.1])) :: Rr) bp cp := bs
    have bv := bm (bq.small)
    apply bj
    refine j_ (t_ ?_)
    have bw : Fr 61 [] [⟨0, [], pt b1 0⟩, ⟨5, [], .slice y (i ++ [a.1]).length z⟩, ⟨10, [], i6 u1⟩, ⟨11, [], i6 u⟩] cq := br.reg
    refine rgB bw bu [] [] [(11, i6 (w64 (u + 1)))] ?_; intro c7 cr
    apply d_
    have cs := bu.perm ((pk 2 rfl).trans (lpr.cons _))
    exact ⟨⟨i ++ [a.1], w64 (u + 1), p.2.2, y, z, bn, bo, bp⟩, ⟨bv.1, bq, m⟩, bv.2, (cr.reg).anyβ _ (by kernel_rfl), cs.kp⟩
   refine k_ (rgH ?_); intro cu bx
   refine bt W E 4 [] [] [(50, pt b1 3), (51, y8 h.1)] ?_; intro c8 bz
   obtain ⟨cv, bA⟩ := ct
   refine ck bz 48 #[pt b1 3, y8 h.1] ?_
   obtain ⟨q, cw, bB⟩ := hxq bA
   have j := cnextF_fun d.2 h.1 cv b1 U V _ _ _ _ _ _ J E E.fz; rw [cw] at j; refine j.mono ?_; rintro _ cx ⟨bC, bD, bE, rfl, M, bF, hm⟩; refine ⟨_, rfl, ?_⟩; intro c9 bG; have bH := hm
   replace m := m.mono M
   have bI : Mem B [] w0 Z0 ((.row b1 (e46B q.2.2 bC bD) 46) :: (.row H [y8 a.1] 5) :: (.own t8 5 y z (i ++ [a.1])) :: Rr) bE cx := bH
   have bJ := bB (bF.small)
   apply bx
   refine j_ (t_ (rgB bG bI [] [] [(11, i6 (w64 (u + 1)))] ?_)); intro da cy
   apply d_
   have cz := bI.perm ((pk 2 rfl).trans (lpr.cons _))
   exact ⟨⟨i ++ [a.1], w64 (u + 1), q.2.2, y, z, bC, bD, bE⟩, ⟨bJ.1, bF, m⟩, bJ.2, (cy.reg).anyβ _ (by kernel_rfl), cz.kp⟩
  refine l_ (j_ (t_ (rgB S I [] [] [(11, i6 (w64 (u + 1)))] ?_))); intro db cA
  apply d_
  have cB := I.perm ((pk 2 rfl).trans (lpr.cons _))
  exact ⟨⟨i ++ [a.1], w64 (u + 1), h.2.2, y, z, au, av, a4⟩, ⟨bK.1, D, m⟩, bK.2, (cA.reg).anyβ _ (by kernel_rfl), cB.kp⟩
 refine x_ (y_ (y_ (z_ (t_ (s_ (sqB P aK [1] [] [(58, .bool (k.Reader.Code != 0))] ?_)))))); intro dc X
 refine c_ X ak (fun _ cC => ?_) fun _ cE => ?_
 ·
  refine sqB X aK [] [] [(4, str [])] ?_; intro dd cD
  exact r_ (h_ (ra1 cD (str []) ⟨([], k), Y, aa, al, rfl, cC, l, o, aK.kp⟩))
 refine k_ (sqH ?_); intro cF bL
 refine s1 X 59 (.slice F i.length G) ?_; intro de aA
 refine u_ aA (str (bstr i)) ((by obtain ⟨Z9, df, cG, cH⟩ := aK.lend 0 rfl; exact bstr_op aA (g := []) (e := 5) (ao := F) (cap := G) (xs := i) rfl (by kernel_rfl) (by kernel_rfl) (by kernel_rfl) (by kernel_rfl)  cH cG rfl)) ?_; intro dg bM
 refine s1 bM 4 (str (bstr i)) ?_; intro dh cI
 apply bL
 exact r_ (ra1 cI (str (bstr i)) ⟨(bstr i, k), Y, aa, al, rfl, cE, l, o, aK.kp⟩)
theorem rplainF_walk (u0 : FReader) (u1 : Int) (b1 : Nat) (ao2 : Option Addr) (cap3 : Nat) (B : Nat) (w0 : World) (Z0 : Fz) (Rr : List Res) (Z : Fz) (w : World) (hs4 : SlR t8 Z ao2 cap3 u0.f.Data) (hM0 : Mem B [] w0 Z0 ((.row b1 [str u0.Reader.Row, i6 u0.Reader.At, i6 u0.Reader.Code, y8 u0.Reader.c.last, i6 u0.Reader.c.n, i6 u0.f.ID, .bool u0.f.Long, .bool u0.f.Fast, .bool u0.f.Remote, i6 u0.f.Size, .slice ao2 u0.f.Data.length cap3] 46) :: Rr) Z w) (hZ : Z.on w) {K : ((List UInt8) × FReader) → Prop} (hp : rplainF_vc u0 u1 K) : Calls Tryz.prog 26 #[pt b1 0, i6 u1] w fun e w' => ∃ (r : (List UInt8) × FReader) (ao1001 : Option Addr) (cap1002 : Nat) (Z' : Fz), e = .returned (str r.1) ∧ K r ∧ Fz.le Z Z' ∧ SlR t8 Z' ao1001 cap1002 r.2.f.Data ∧ Mem B [] w0 Z0 ((.row b1 [str r.2.Reader.Row, i6 r.2.Reader.At, i6 r.2.Reader.Code, y8 r.2.Reader.c.last, i6 r.2.Reader.c.n, i6 r.2.f.ID, .bool r.2.f.Long, .bool r.2.f.Fast, .bool r.2.f.Remote, i6 r.2.f.Size, .slice ao1001 r.2.f.Data.length cap1002] 46) :: Rr) Z' w' := by
 refine enter0 Tryz.func26 rfl rfl (by kernel_rfl) ?_; intro a0 P; have j := Fz.le.refl Z
 have ay := hp (hs4.small)
 refine sqB P hM0 [] [] [] ?_; intro a7 Q
 refine sqB Q hM0 [] [] [(5, .slice none 0 0)] ?_; intro aX R
 refine s_ (sqB R hM0 [] [] [(6, i6 u1), (7, i6 0)] ?_); intro S U
 apply b_
 have V : Fr 22 [] [⟨0, [], pt b1 0⟩, ⟨5, [], .slice none 0 0⟩, ⟨6, [], i6 u1⟩, ⟨7, [], i6 0⟩] S := U.reg
 have W : Mem B [] w0 Z0 ((.own t8 5 none 0 ([] : List Int)) :: (.row b1 (e46B u0 ao2 cap3) 46) :: Rr) Z w := hM0.addNil t8 5 (by decide)
 have X : Fr 22 [] [⟨0, [], pt b1 0⟩, ⟨5, [], .slice none ([] : List Int).length 0⟩, ⟨6, [], i6 u1⟩, ⟨7, [], i6 0⟩] S := V.reg
 obtain ⟨az, aA, aB, aC⟩ := ay
 refine lp (ι := (List Int) × Int × FReader × (Option Addr) × Nat × (Option Addr) × Nat × Fz) (fun s => [⟨0, [], pt b1 0⟩, ⟨5, [], .slice s.2.2.2.1 s.1.length s.2.2.2.2.1⟩, ⟨6, [], i6 u1⟩, ⟨7, [], i6 s.2.1⟩]) (fun s => ((.own t8 5 s.2.2.2.1 s.2.2.2.2.1 s.1) :: (.row b1 [str s.2.2.1.Reader.Row, i6 s.2.2.1.Reader.At, i6 s.2.2.1.Reader.Code, y8 s.2.2.1.Reader.c.last, i6 s.2.2.1.Reader.c.n, i6 s.2.2.1.f.ID, .bool s.2.2.1.f.Long, .bool s.2.2.1.f.Fast, .bool s.2.2.1.f.Remote, i6 s.2.2.1.f.Size, .slice s.2.2.2.2.2.1 s.2.2.1.f.Data.length s.2.2.2.2.2.2.1] 46) :: Rr)) (fun s => s.2.2.2.2.2.2.2) (fun s => az s.1 s.2.1 s.2.2.1 ∧ SlR t8 s.2.2.2.2.2.2.2 s.2.2.2.2.2.1 s.2.2.2.2.2.2.1 s.2.2.1.f.Data ∧ Fz.le Z s.2.2.2.2.2.2.2) (fun s => aA s.1 s.2.1 s.2.2.1) ⟨([] : List Int), 0, u0, none, 0, ao2, cap3, Z⟩ ⟨aB, hs4, Fz.le.refl _⟩ (by exact X.reg) (by exact W) ?_
 rintro ⟨h, m, d, k, l, v, y, D⟩ ⟨aD, o, p⟩ aE aF Y aa
 have z := aC h m d aD
 replace j := Fz.le.trans j p
 refine sqB Y aa [] [] [(8, .bool (decide (m < u1)))] ?_; intro aZ q
 refine s_ (c_ q z (fun _ aG => ?_) fun _ C => ?_)
 ·
  refine k_ (s_ (b_ (rgH ?_))); intro aH ad
  refine bt q aa 2 [] [] [(9, .slice k h.length l), (10, pt b1 0)] ?_; intro a1 ae
  obtain ⟨aI, af⟩ := aG
  refine ck ae 47 #[pt b1 0] ?_
  obtain ⟨a, aJ, ag⟩ := hxq af
  have F := rbitF_fun d aI b1 v y _ _ _ _ _ _ o (aa.perm (pk 1 rfl)) aa.fz; rw [aJ] at F; refine F.mono ?_; rintro _ aK ⟨G, H, I, rfl, A, ah, hm⟩; refine ⟨_, rfl, ?_⟩; intro a2 ai; have aj := hm
  replace p := p.mono A
  have ak : Mem B [] w0 Z0 ((.row b1 (e46B a.2 G H) 46) :: (.own t8 5 k l h) :: Rr) I aK := aj
  have aL := ag (ah.small)
  refine nw ai ak (fun b => .slice (sm b) 1 1) [y8 a.1] 5 ?_; intro al a3 a4 am J
  obtain ⟨aM, an⟩ := aL
  refine ap am J 2 (T := t8) (xs := h) (ys := [a.1]) (ao := k) (cap := l) (ao2 := (sm al)) (cap2 := 1) (t := 22) (e := 5) (bytes := 1) (nog rfl _) rfl (by kernel_rfl) rfl (by kernel_rfl) (by kernel_rfl) (by kernel_rfl) rfl (Src.row J 0 rfl (RepAll.one (T := t8) (x := a.1) rfl)) aM ?_; intro L M a5 aN a6 aq ar
  have au : Mem B [] w0 Z0 ((.row al [y8 a.1] 5) :: (.row b1 (e46B a.2 G H) 46) :: (.own t8 5 L M (h ++ [a.1])) :: Rr) I aN := ar
  refine s1 aq 5 (.slice L (h ++ [a.1]).length M) ?_; intro a8 av
  apply ad
  refine j_ (t_ (rgB av au [] [] [(7, i6 (w64 (m + 1)))] ?_)); intro a9 aO
  apply d_
  have aP := au.perm ((pk 2 rfl).trans (((pk 1 rfl).trans (lpr.cons _)).cons _))
  exact ⟨⟨h ++ [a.1], w64 (m + 1), a.2, L, M, G, H, I⟩, ⟨an.1, ah, p⟩, an.2, (aO.reg).anyβ _ (by kernel_rfl), aP.kp⟩
 refine x_ (y_ (y_ (z_ (t_ (s_ (sqB q aa [1] [] [(19, .bool (d.Reader.Code != 0))] ?_)))))); intro ba u
 refine c_ u C (fun _ aQ => ?_) fun _ aS => ?_
 ·
  refine sqB u aa [] [] [(4, str [])] ?_; intro bb aR
  exact r_ (h_ (ra1 aR (str []) ⟨([], d), v, y, D, rfl, aQ, j, o, aa.kp⟩))
 refine k_ (sqH ?_); intro aT aw
 refine s1 u 20 (.slice k h.length l) ?_; intro bc O
 refine u_ O (str (bstr h)) ((by obtain ⟨Z9, bd, aU, aV⟩ := aa.lend 0 rfl; exact bstr_op O (g := []) (e := 5) (ao := k) (cap := l) (xs := h) rfl (by kernel_rfl) (by kernel_rfl) (by kernel_rfl) (by kernel_rfl)  aV aU rfl)) ?_; intro be ax
 refine s1 ax 4 (str (bstr h)) ?_; intro bf aW
 apply aw
 exact r_ (ra1 aW (str (bstr h)) ⟨(bstr h, d), v, y, D, rfl, aS, j, o, aa.kp⟩)
theorem sput_walk (u0 : List UInt8)  (Z : Fz) (w : World)  (hZ : Z.on w) {K : ((List UInt8) × Int) → Prop} (hp : sput_vc u0 K) : Calls Tryz.prog 62 #[str u0] w fun e w' => ∃ r : (List UInt8) × Int, e = .returned (.tuple #[str r.1, i6 r.2]) ∧ K r ∧ Below w.heap.size w w' := by
 refine enter0 Tryz.func62 rfl rfl (by kernel_rfl) ?_; intro a0 Y; have E := Mem.start w Z hZ
 refine sqB Y E [] [] [] ?_; intro a4 aa
 refine s_ (sqH ?_); intro a8 ab
 refine s1 aa 10 (str u0) ?_; intro a7 ac
 refine fc ac E (bcheck_fun u0 _ _ E.fz) ?_; intro a9 bV ad o
 refine s1 ad 4 (i6 (bcheckS u0)) ?_; intro bW ae
 apply ab
 refine sqB ae o [] [] [(13, .bool ((bcheckS u0) != 0))] ?_; intro bX A
 refine c_ A hp (fun _ ba => ?_) fun _ bc => ?_
 ·
  refine sqB A o [] [] [(2, str []), (3, i6 (bcheckS u0))] ?_; intro bY bb
  exact r_ (h_ (ra2 bb (.tuple #[str [], i6 (bcheckS u0)]) ⟨([], (bcheckS u0)), rfl, ba, o.below⟩))
 refine k_ (sqB A o [] [] [(5, .slice none 0 0)] ?_); intro bZ af
 refine sqH ?_; intro bd ag
 refine nw af o pb [y8 0, i6 0] 42 ?_; intro f b0 be ah M
 apply ag
 refine s_ (sqB ah M [] [] [(16, i6 (u0.length : Int)), (17, i6 0)] ?_); intro ai aj
 apply b_
 have ak : Fr 43 [] [⟨0, [], str u0⟩, ⟨5, [], .slice none 0 0⟩, ⟨6, [], pt f 0⟩, ⟨16, [], i6 (u0.length : Int)⟩, ⟨17, [], i6 0⟩] ai := aj.reg
 have al : Mem w.heap.size [] w Z [.own t8 5 none 0 ([] : List Int), .row f [y8 0, i6 0] 42] Z be := M.addNil t8 5 (by decide)
 have am : Fr 43 [] [⟨0, [], str u0⟩, ⟨5, [], .slice none ([] : List Int).length 0⟩, ⟨6, [], pt f 0⟩, ⟨16, [], i6 (u0.length : Int)⟩, ⟨17, [], i6 0⟩] ai := ak.reg
 obtain ⟨bf, bg, bh, bi⟩ := bc
 refine lp (ι := (List Int) × Int × Counter × (Option Addr) × Nat × Fz) (fun s => [⟨0, [], str u0⟩, ⟨5, [], .slice s.2.2.2.1 s.1.length s.2.2.2.2.1⟩, ⟨6, [], pt f 0⟩, ⟨16, [], i6 (u0.length : Int)⟩, ⟨17, [], i6 s.2.1⟩]) (fun s => [.own t8 5 s.2.2.2.1 s.2.2.2.2.1 s.1, .row f [y8 s.2.2.1.last, i6 s.2.2.1.n] 42]) (fun s => s.2.2.2.2.2) (fun s => bf s.1 s.2.1 s.2.2.1 ∧ Fz.le Z s.2.2.2.2.2) (fun s => bg s.1 s.2.1 s.2.2.1) ⟨([] : List Int), 0, (⟨0, 0⟩ : Counter), none, 0, Z⟩ ⟨bh, Fz.le.refl _⟩ (by exact am.reg) (by exact al) ?_
 rintro ⟨c, h, p, u, v, an⟩ ⟨bj, k⟩ bk bl aq ar
 have F := bi c h p bj
 refine sqB aq ar [] [] [(18, .bool (decide (h < (u0.length : Int))))] ?_; intro b2 B
 refine s_ (c_ B F (fun _ bm => ?_) fun _ bQ => ?_)
 ·
  refine k_ (s_ (b_ (sqB B ar [] [] [(7, i6 h)] ?_))); intro b3 av
  refine sqH ?_; intro bn aw
  refine bt av ar 3 [] [] [(20, .slice u c.length v), (21, str u0), (22, i6 h)] ?_; intro b4 ax
  obtain ⟨bo, bp⟩ := bm
  obtain ⟨d, ay⟩ : ∃ q, u0[h.toNat]? = some q := ⟨_, List.getElem?_eq_getElem (by omega)⟩; have bq := bp d ay
  refine si ax .i64 bo.1 ay ?_; intro b5 az
  refine nw az ar (fun b => .slice (sm b) 1 1) [y8 (d.toNat : Int)] 5 ?_; intro C b6 b7 aA O
  obtain ⟨br, bs⟩ := bq
  refine ap aA O 1 (T := t8) (xs := c) (ys := [(d.toNat : Int)]) (ao := u) (cap := v) (ao2 := (sm C)) (cap2 := 1) (t := 22) (e := 5) (bytes := 1) (nog rfl _) rfl (by kernel_rfl) rfl (by kernel_rfl) (by kernel_rfl) (by kernel_rfl) rfl (Src.row O 0 rfl (RepAll.one (T := t8) (x := (d.toNat : Int)) rfl)) br ?_; intro y z b8 bu b9 aB aC
  have G : Mem w.heap.size [] w Z [.row C [y8 (d.toNat : Int)] 5, .own t8 5 y z (c ++ [(d.toNat : Int)]), .row f [y8 p.last, i6 p.n] 42] an bu := aC
  refine s1 aB 5 (.slice y (c ++ [(d.toNat : Int)]).length z) ?_; intro ca aD
  apply aw
  refine sqH ?_; intro bv aE
  refine bt aD G 2 [] [] [(27, str u0), (28, i6 h)] ?_; intro cb aF
  obtain ⟨bw, bx⟩ := bs
  obtain ⟨P, aG⟩ : ∃ q, u0[h.toNat]? = some q := ⟨_, List.getElem?_eq_getElem (by omega)⟩; have bz := bx P aG
  refine si aF .i64 bw.1 aG ?_; intro cc aH
  obtain ⟨bA, aI⟩ := bz
  refine ck aH 48 #[pt f 0, y8 (P.toNat : Int)] ?_
  obtain ⟨a, bB, H⟩ := hxq aI
  have l := cnext_fun p (P.toNat : Int) bA f _ _ _ _ _ _ (G.perm (pk 2 rfl)) G.fz; rw [bB] at l; refine l.mono ?_; rintro _ bC ⟨Q, rfl, aJ, hm⟩; refine ⟨_, rfl, ?_⟩; intro ce aK; have aL := hm
  replace k := k.mono aJ
  have m : Mem w.heap.size [] w Z [.row f [y8 a.2.2.last, i6 a.2.2.n] 42, .row C [y8 (d.toNat : Int)] 5, .own t8 5 y z (c ++ [(d.toNat : Int)])] Q bC := aL
  refine bt aK m 5 [] [] [(8, y8 a.1), (9, .bool a.2.1)] ?_; intro cf aM
  apply aE
  refine sqB aM m [] [] [(33, .bool a.2.1)] ?_; intro cg D
  refine c_ D H (fun _ bD => ?_) fun _ a3 => ?_
  ·
   refine sqH ?_; intro bE aN
   refine bt D m 2 [] [] [(34, .slice y (c ++ [(d.toNat : Int)]).length z), (35, y8 a.1)] ?_; intro ch aO
   refine nw aO m (fun b => .slice (sm b) 1 1) [y8 a.1] 5 ?_; intro S ci cj aP U
   obtain ⟨bF, bG⟩ := bD
   refine ap aP U 3 (T := t8) (xs := c ++ [(d.toNat : Int)]) (ys := [a.1]) (ao := y) (cap := z) (ao2 := (sm S)) (cap2 := 1) (t := 22) (e := 5) (bytes := 1) (nog rfl _) rfl (by kernel_rfl) rfl (by kernel_rfl) (by kernel_rfl) (by kernel_rfl) rfl (Src.row U 0 rfl (RepAll.one (T := t8) (x := a.1) rfl)) bF ?_; intro I J cl bH cm aQ aR
   have V : Mem w.heap.size [] w Z [.row S [y8 a.1] 5, .row f [y8 a.2.2.last, i6 a.2.2.n] 42, .row C [y8 (d.toNat : Int)] 5, .own t8 5 I J ((c ++ [(d.toNat : Int)]) ++ [a.1])] Q bH := aR
   refine s1 aQ 5 (.slice I ((c ++ [(d.toNat : Int)]) ++ [a.1]).length J) ?_; intro cn aS
   apply aN
   refine rgH ?_; intro bI aT
   refine s1 aS 38 (y8 a.1) ?_; intro co aU
   obtain ⟨bJ, aV⟩ := bG
   refine ck aU 48 #[pt f 0, y8 a.1] ?_
   obtain ⟨W, bK, aW⟩ := hxq aV
   have l := cnext_fun a.2.2 a.1 bJ f _ _ _ _ _ _ (V.perm (pk 1 rfl)) V.fz; rw [bK] at l; refine l.mono ?_; rintro _ bL ⟨aX, rfl, aY, hm⟩; refine ⟨_, rfl, ?_⟩; intro cp aZ; have a1 := hm
   replace k := k.mono aY
   have a2 : Mem w.heap.size [] w Z [.row f [y8 W.2.2.last, i6 W.2.2.n] 42, .row S [y8 a.1] 5, .row C [y8 (d.toNat : Int)] 5, .own t8 5 I J ((c ++ [(d.toNat : Int)]) ++ [a.1])] aX bL := a1
   apply aT
   refine j_ (t_ (rgB aZ a2 [] [] [(17, i6 (w64 (h + 1)))] ?_)); intro cq bM
   apply d_
   have bN := a2.perm ((pk 3 rfl).trans (lpr.cons _))
   exact ⟨⟨(c ++ [(d.toNat : Int)]) ++ [a.1], w64 (h + 1), W.2.2, I, J, aX⟩, ⟨aW.1, k⟩, aW.2, (bM.reg).anyβ _ (by kernel_rfl), bN.kp⟩
  refine l_ (j_ (t_ (rgB D m [] [] [(17, i6 (w64 (h + 1)))] ?_))); intro cr bO
  apply d_
  have bP := m.perm ((pk 2 rfl).trans (lpr.cons _))
  exact ⟨⟨c ++ [(d.toNat : Int)], w64 (h + 1), a.2.2, y, z, Q⟩, ⟨a3.1, k⟩, a3.2, (bO.reg).anyβ _ (by kernel_rfl), bP.kp⟩
 refine x_ (y_ (y_ (z_ (t_ (sqH ?_))))); intro bR a5
 refine s1 B 41 (.slice u c.length v) ?_; intro cs X
 refine u_ X (str (bstr c)) ((by obtain ⟨Z9, ct, bS, bT⟩ := ar.lend 0 rfl; exact bstr_op X (g := []) (e := 5) (ao := u) (cap := v) (xs := c) rfl (by kernel_rfl) (by kernel_rfl) (by kernel_rfl) (by kernel_rfl)  bT bS rfl)) ?_; intro cu a6
 refine bt a6 ar 2 [] [] [(2, str (bstr c)), (3, i6 0)] ?_; intro cv bU
 apply a5
 exact r_ (ra2 bU (.tuple #[str (bstr c), i6 0]) ⟨(bstr c, 0), rfl, bQ, ar.below⟩)
theorem sfixed_walk (u0 : List UInt8) (u1 : Int)  (Z : Fz) (w : World)  (hZ : Z.on w) {K : ((List UInt8) × Int) → Prop} (hp : sfixed_vc u0 u1 K) : Calls Tryz.prog 51 #[str u0, y8 u1] w fun e w' => ∃ r : (List UInt8) × Int, e = .returned (.tuple #[str r.1, i6 r.2]) ∧ K r ∧ Below w.heap.size w w' := by
 refine enter0 Tryz.func51 rfl rfl (by kernel_rfl) ?_; intro a0 W; have u := Mem.start w Z hZ
 refine sqB W u [] [] [] ?_; intro a4 X
 refine s_ (sqH ?_); intro a6 Y
 refine s1 X 10 (str u0) ?_; intro a7 aa
 refine fc aa u (bcheck_fun u0 _ _ u.fz) ?_; intro a9 a8 ab h
 refine s1 ab 6 (i6 (bcheckS u0)) ?_; intro bW ac
 apply Y
 refine sqB ac h [] [] [(13, .bool ((bcheckS u0) != 0))] ?_; intro bX m
 refine c_ m hp (fun _ ba => ?_) fun _ v => ?_
 ·
  refine sqB m h [] [] [(4, str []), (5, i6 (bcheckS u0))] ?_; intro bY bb
  exact r_ (h_ (ra2 bb (.tuple #[str [], i6 (bcheckS u0)]) ⟨([], (bcheckS u0)), rfl, ba, h.below⟩))
 refine k_ (s_ (sqB m h [] [] [(20, .bool ((u1 != 48) && (u1 != 49)))] ?_)); intro bZ n
 refine c_ n v (fun _ bc => ?_) fun _ be => ?_
 ·
  refine sqB n h [] [] [(4, str []), (5, i6 3)] ?_; intro b0 bd
  exact r_ (h_ (ra2 bd (.tuple #[str [], i6 3]) ⟨([], 3), rfl, bc, h.below⟩))
 refine k_ (sqB n h [] [] [(7, .slice none 0 0)] ?_); intro b1 ad
 refine sqB ad h [] [] [(8, y8 u1)] ?_; intro b2 ae
 refine s_ (sqB ae h [] [] [(23, i6 (u0.length : Int)), (24, i6 0)] ?_); intro af ag
 apply b_
 have ah : Fr 47 [] [⟨0, [], str u0⟩, ⟨7, [], .slice none 0 0⟩, ⟨8, [], y8 u1⟩, ⟨23, [], i6 (u0.length : Int)⟩, ⟨24, [], i6 0⟩] af := ag.reg
 have ai : Mem w.heap.size [] w Z [.own t8 5 none 0 ([] : List Int)] Z a8 := h.addNil t8 5 (by decide)
 have aj : Fr 47 [] [⟨0, [], str u0⟩, ⟨7, [], .slice none ([] : List Int).length 0⟩, ⟨8, [], y8 u1⟩, ⟨23, [], i6 (u0.length : Int)⟩, ⟨24, [], i6 0⟩] af := ah.reg
 obtain ⟨bf, bg, bh, bi⟩ := be
 refine lp (ι := (List Int) × Int × Int × (Option Addr) × Nat) (fun s => [⟨0, [], str u0⟩, ⟨7, [], .slice s.2.2.2.1 s.1.length s.2.2.2.2⟩, ⟨8, [], y8 s.2.1⟩, ⟨23, [], i6 (u0.length : Int)⟩, ⟨24, [], i6 s.2.2.1⟩]) (fun s => [.own t8 5 s.2.2.2.1 s.2.2.2.2 s.1]) (fun s => Z) (fun s => bf s.1 s.2.1 s.2.2.1) (fun s => bg s.1 s.2.1 s.2.2.1) ⟨([] : List Int), u1, 0, none, 0⟩ bh (by exact aj.reg) (by exact ai) ?_
 rintro ⟨a, d, c, i, j⟩ bj bk bl ak al
 have y := bi a d c bj
 refine sqB ak al [] [] [(25, .bool (decide (c < (u0.length : Int))))] ?_; intro b3 o
 refine s_ (c_ o y (fun _ z => ?_) fun _ bQ => ?_)
 ·
  refine k_ (s_ (b_ (sqB o al [] [] [(9, i6 c)] ?_))); intro b4 an
  refine s_ (sqB an al [] [] [(29, .bool ((c.tmod 4) == 0))] ?_); intro b5 p
  refine c_ p z (fun _ bm => ?_) fun _ bE => ?_
  ·
   refine rgH ?_; intro bn aq
   refine bt p al 3 [] [] [(30, .slice i a.length j), (32, y8 (w8 (97 - d)))] ?_; intro b6 ar
   refine nw ar al (fun b => .slice (sm b) 1 1) [y8 (w8 (97 - d))] 5 ?_; intro G b7 b8 au H
   obtain ⟨bo, bp⟩ := bm
   refine ap au H 1 (T := t8) (xs := a) (ys := [w8 (97 - d)]) (ao := i) (cap := j) (ao2 := (sm G)) (cap2 := 1) (t := 22) (e := 5) (bytes := 1) (nog rfl _) rfl (by kernel_rfl) rfl (by kernel_rfl) (by kernel_rfl) (by kernel_rfl) rfl (Src.row H 0 rfl (RepAll.one (T := t8) (x := (w8 (97 - d))) rfl)) bo ?_; intro A B b9 bq ca av aw
   have I : Mem w.heap.size [] w Z [.row G [y8 (w8 (97 - d))] 5, .own t8 5 A B (a ++ [w8 (97 - d)])] Z bq := aw
   refine s1 av 7 (.slice A (a ++ [w8 (97 - d)]).length B) ?_; intro cb ax
   apply aq
   refine t_ (sqH ?_); intro br ay
   refine bt ax I 3 [] [] [(35, .slice A (a ++ [w8 (97 - d)]).length B), (36, str u0), (37, i6 c)] ?_; intro cc az
   obtain ⟨bs, bu⟩ := bp
   obtain ⟨k, aA⟩ : ∃ q, u0[c.toNat]? = some q := ⟨_, List.getElem?_eq_getElem (by omega)⟩; have bv := bu k aA
   refine si az .i64 bs.1 aA ?_; intro ce aB
   refine nw aB I (fun b => .slice (sm b) 1 1) [y8 (k.toNat : Int)] 5 ?_; intro aC cf cg aD J
   obtain ⟨bw, bx⟩ := bv
   refine ap aD J 2 (T := t8) (xs := a ++ [w8 (97 - d)]) (ys := [(k.toNat : Int)]) (ao := A) (cap := B) (ao2 := (sm aC)) (cap2 := 1) (t := 22) (e := 5) (bytes := 1) (nog rfl _) rfl (by kernel_rfl) rfl (by kernel_rfl) (by kernel_rfl) (by kernel_rfl) rfl (Src.row J 0 rfl (RepAll.one (T := t8) (x := (k.toNat : Int)) rfl)) bw ?_; intro L M ch bz ci aE aF
   have N : Mem w.heap.size [] w Z [.row aC [y8 (k.toNat : Int)] 5, .row G [y8 (w8 (97 - d))] 5, .own t8 5 L M ((a ++ [w8 (97 - d)]) ++ [(k.toNat : Int)])] Z bz := aF
   refine s1 aE 7 (.slice L ((a ++ [w8 (97 - d)]) ++ [(k.toNat : Int)]).length M) ?_; intro cj aG
   apply ay
   refine rgH ?_; intro bA aH
   refine bt aG N 2 [] [] [(41, str u0), (42, i6 c)] ?_; intro ck aI
   obtain ⟨bB, bC⟩ := bx
   obtain ⟨O, aJ⟩ : ∃ q, u0[c.toNat]? = some q := ⟨_, List.getElem?_eq_getElem (by omega)⟩; have aK := bC O aJ
   refine si aI .i64 bB.1 aJ ?_; intro cl aL
   refine s1 aL 8 (y8 (O.toNat : Int)) ?_; intro cm aM
   apply aH
   refine j_ (t_ (rgB aM N [] [] [(24, i6 (w64 (c + 1)))] ?_)); intro cn bD
   exact d_ ⟨⟨(a ++ [w8 (97 - d)]) ++ [(k.toNat : Int)], (O.toNat : Int), w64 (c + 1), L, M⟩, aK.1, aK.2, (bD.reg).anyβ _ (by kernel_rfl), N.kp⟩
  refine k_ (sqH ?_); intro bF aN
  refine bt p al 3 [] [] [(35, .slice i a.length j), (36, str u0), (37, i6 c)] ?_; intro co aO
  obtain ⟨bG, bH⟩ := bE
  obtain ⟨l, aP⟩ : ∃ q, u0[c.toNat]? = some q := ⟨_, List.getElem?_eq_getElem (by omega)⟩; have bI := bH l aP
  refine si aO .i64 bG.1 aP ?_; intro cp aQ
  refine nw aQ al (fun b => .slice (sm b) 1 1) [y8 (l.toNat : Int)] 5 ?_; intro aR cq cr aS P
  obtain ⟨bJ, bK⟩ := bI
  refine ap aS P 1 (T := t8) (xs := a) (ys := [(l.toNat : Int)]) (ao := i) (cap := j) (ao2 := (sm aR)) (cap2 := 1) (t := 22) (e := 5) (bytes := 1) (nog rfl _) rfl (by kernel_rfl) rfl (by kernel_rfl) (by kernel_rfl) (by kernel_rfl) rfl (Src.row P 0 rfl (RepAll.one (T := t8) (x := (l.toNat : Int)) rfl)) bJ ?_; intro Q R cs bL ct aT aU
  have S : Mem w.heap.size [] w Z [.row aR [y8 (l.toNat : Int)] 5, .own t8 5 Q R (a ++ [(l.toNat : Int)])] Z bL := aU
  refine s1 aT 7 (.slice Q (a ++ [(l.toNat : Int)]).length R) ?_; intro cu aV
  apply aN
  refine rgH ?_; intro bM aW
  refine bt aV S 2 [] [] [(41, str u0), (42, i6 c)] ?_; intro cv aX
  obtain ⟨bN, bO⟩ := bK
  obtain ⟨U, aY⟩ : ∃ q, u0[c.toNat]? = some q := ⟨_, List.getElem?_eq_getElem (by omega)⟩; have aZ := bO U aY
  refine si aX .i64 bN.1 aY ?_; intro cw a1
  refine s1 a1 8 (y8 (U.toNat : Int)) ?_; intro cx a2
  apply aW
  refine j_ (t_ (rgB a2 S [] [] [(24, i6 (w64 (c + 1)))] ?_)); intro cy bP
  exact d_ ⟨⟨a ++ [(l.toNat : Int)], (U.toNat : Int), w64 (c + 1), Q, R⟩, aZ.1, aZ.2, (bP.reg).anyβ _ (by kernel_rfl), S.kp⟩
 refine x_ (y_ (y_ (z_ (t_ (sqH ?_))))); intro bR a3
 refine s1 o 45 (.slice i a.length j) ?_; intro cz V
 refine u_ V (str (bstr a)) ((by obtain ⟨Z9, cA, bS, bT⟩ := al.lend 0 rfl; exact bstr_op V (g := []) (e := 5) (ao := i) (cap := j) (xs := a) rfl (by kernel_rfl) (by kernel_rfl) (by kernel_rfl) (by kernel_rfl)  bT bS rfl)) ?_; intro cB a5
 refine bt a5 al 2 [] [] [(4, str (bstr a)), (5, i6 0)] ?_; intro cC bU
 apply a3
 exact r_ (ra2 bU (.tuple #[str (bstr a), i6 0]) ⟨(bstr a, 0), rfl, bQ, al.below⟩)
theorem bbytes_walk (u0 : List UInt8)  (Z : Fz) (w : World)  (hZ : Z.on w) {K : ((List Int) × Int) → Prop} (hp : bbytes_vc u0 K) : Calls Tryz.prog 22 #[str u0] w fun e w' => ∃ (r : (List Int) × Int) (ao1001 : Option Addr) (cap1002 : Nat) (Z' : Fz), e = .returned (.tuple #[.slice ao1001 r.1.length cap1002, i6 r.2]) ∧ K r ∧ Mem w.heap.size [] w Z [.own t8 5 ao1001 cap1002 r.1] Z' w' := by
 refine enter0 Tryz.func22 rfl rfl (by kernel_rfl) ?_; intro a0 E; have n := Mem.start w Z hZ
 refine sqB E n [] [] [] ?_; intro a4 F
 refine s_ (sqH ?_); intro ai G
 refine s1 F 6 (str u0) ?_; intro a7 H
 refine fc H n (bcheck_fun u0 _ _ n.fz) ?_; intro a9 q I c
 refine s1 I 4 (i6 (bcheckS u0)) ?_; intro aR J
 apply G
 refine sqB J c [] [] [(9, .bool ((bcheckS u0) != 0))] ?_; intro aS j
 refine c_ j hp (fun _ aj => ?_) fun _ o => ?_
 ·
  refine sqB j c [] [] [(2, .slice none 0 0), (3, i6 (bcheckS u0))] ?_; intro aT ak
  refine r_ (h_ ?_)
  have al : Mem w.heap.size [] w Z [.own t8 5 none 0 ([] : List Int)] Z q := c.addNil t8 5 (by decide)
  exact ra2 ak (.tuple #[.slice none ([] : List Int).length 0, i6 (bcheckS u0)]) ⟨(([] : List Int), (bcheckS u0)), none, 0, Z, rfl, aj, al.kp⟩
 refine k_ (s_ (sqB j c [] [] [(14, .bool (((u0.length : Int).tmod 8) != 0))] ?_)); intro aU l
 refine c_ l o (fun _ am => ?_) fun _ ar => ?_
 ·
  refine sqB l c [] [] [(2, .slice none 0 0), (3, i6 4)] ?_; intro aV an
  refine r_ (h_ ?_)
  have aq : Mem w.heap.size [] w Z [.own t8 5 none 0 ([] : List Int)] Z q := c.addNil t8 5 (by decide)
  exact ra2 an (.tuple #[.slice none ([] : List Int).length 0, i6 4]) ⟨(([] : List Int), 4), none, 0, Z, rfl, am, aq.kp⟩
 refine k_ (sqB l c [] [] [(5, .slice none 0 0)] ?_); intro L M
 refine s_ (b_ ?_)
 have N : Fr 28 [] [⟨0, [], str u0⟩, ⟨5, [], .slice none 0 0⟩] L := M.reg
 have O : Mem w.heap.size [] w Z [.own t8 5 none 0 ([] : List Int)] Z q := c.addNil t8 5 (by decide)
 have P : Fr 28 [] [⟨0, [], str u0⟩, ⟨5, [], .slice none ([] : List Int).length 0⟩] L := N.reg
 obtain ⟨au, av, aw, ax⟩ := ar
 refine lp (ι := (List UInt8) × (List Int) × (Option Addr) × Nat) (fun s => [⟨0, [], str s.1⟩, ⟨5, [], .slice s.2.2.1 s.2.1.length s.2.2.2⟩]) (fun s => [.own t8 5 s.2.2.1 s.2.2.2 s.2.1]) (fun s => Z) (fun s => au s.1 s.2.1) (fun s => av s.1 s.2.1) ⟨u0, ([] : List Int), none, 0⟩ aw (by exact P.reg) (by exact O) ?_
 rintro ⟨a, d, f, h⟩ ay az aA Q R
 have p := ax a d ay
 refine s_ (sqB Q R [] [] [(17, .bool (decide ((a.length : Int) > 0)))] ?_); intro aW m
 refine c_ m p (fun _ aB => ?_) fun _ aO => ?_
 ·
  refine k_ (b_ (sqH ?_)); intro aC U
  refine bt m R 2 [] [] [(18, .slice f d.length h), (19, str a)] ?_; intro aX z
  obtain ⟨aD, aE⟩ := aB
  refine u_ z (str (a.take (8 : Int).toNat)) (strslH_run z (g := []) (k := .i64) rfl (by kernel_rfl) (by kernel_rfl) (by kernel_rfl) aD rfl) ?_; intro aY V
  obtain ⟨aF, aG⟩ := aE
  refine fc V R (bread_fun (a.take (8 : Int).toNat) aF _ _ R.fz) ?_; intro aZ a1 W X
  refine s1 W 22 (y8 (w8 (breadS (a.take (8 : Int).toNat)))) ?_; intro a2 Y
  refine nw Y X (fun b => .slice (sm b) 1 1) [y8 (w8 (breadS (a.take (8 : Int).toNat)))] 5 ?_; intro aa a3 a5 ab A
  obtain ⟨aH, aI⟩ := aG
  refine ap ab A 1 (T := t8) (xs := d) (ys := [w8 (breadS (a.take (8 : Int).toNat))]) (ao := f) (cap := h) (ao2 := (sm aa)) (cap2 := 1) (t := 22) (e := 5) (bytes := 1) (nog rfl _) rfl (by kernel_rfl) rfl (by kernel_rfl) (by kernel_rfl) (by kernel_rfl) rfl (Src.row A 0 rfl (RepAll.one (T := t8) (x := (w8 (breadS (a.take (8 : Int).toNat)))) rfl)) aH ?_; intro B C a6 aJ a8 ac ad
  have aK : Mem w.heap.size [] w Z [.row aa [y8 (w8 (breadS (a.take (8 : Int).toNat)))] 5, .own t8 5 B C (d ++ [w8 (breadS (a.take (8 : Int).toNat))])] Z aJ := ad
  refine s1 ac 5 (.slice B (d ++ [w8 (breadS (a.take (8 : Int).toNat))]).length C) ?_; intro ba ae
  apply U
  refine rgH ?_; intro aL af
  refine s1 ae 25 (str a) ?_; intro bb D
  obtain ⟨aM, ag⟩ := aI
  refine u_ D (str (a.drop (8 : Int).toNat)) (strslL_run D (g := []) (k := .i64) rfl (by kernel_rfl) (by kernel_rfl) (by kernel_rfl) aM rfl) ?_; intro bc ah
  refine s1 ah 0 (str (a.drop (8 : Int).toNat)) ?_; intro bd aN
  apply af
  exact j_ (d_ ⟨⟨a.drop (8 : Int).toNat, d ++ [w8 (breadS (a.take (8 : Int).toNat))], B, C⟩, ag.1, ag.2, (aN.reg).anyβ _ (by kernel_rfl), aK.kp⟩)
 refine x_ (y_ (y_ (z_ (t_ (sqB m R [] [] [(2, .slice f d.length h), (3, i6 0)] ?_))))); intro be aP
 exact r_ (ra2 aP (.tuple #[.slice f d.length h, i6 0]) ⟨(d, 0), f, h, Z, rfl, aO, R.kp⟩)
theorem beq_walk (u0 : List Int) (u1 : List Int) (ao1 : Option Addr) (cap2 : Nat) (ao4 : Option Addr) (cap5 : Nat) (Z : Fz) (w : World) (hs3 : SlR t8 Z ao1 cap2 u0) (hs6 : SlR t8 Z ao4 cap5 u1) (hZ : Z.on w) {K : Bool → Prop} (hp : beq_vc u0 u1 K) : Calls Tryz.prog 38 #[.slice ao1 u0.length cap2, .slice ao4 u1.length cap5] w fun e w' => ∃ r : Bool, e = .returned (.bool r) ∧ K r ∧ Below w.heap.size w w' := by
 refine enter0 Tryz.func38 rfl rfl (by kernel_rfl) ?_; intro a0 y; have b := Mem.start w Z hZ
 have l := hp (hs3.small) (hs6.small)
 refine sqB y b [] [] [] ?_; intro aD A
 refine s_ (sqB A b [] [] [(10, .bool ((u0.length : Int) != (u1.length : Int)))] ?_); intro aE d
 refine c_ d l (fun _ W => ?_) fun _ Y => ?_
 ·
  refine sqB d b [] [] [(4, .bool false)] ?_; intro aF X
  exact r_ (h_ (ra1 X (.bool false) ⟨false, rfl, W, b.below⟩))
 refine k_ (s_ (sqB d b [] [] [(12, i6 (u0.length : Int)), (13, i6 0)] ?_)); intro B C
 apply b_
 have D : Fr 26 [] [⟨0, [], .slice ao1 u0.length cap2⟩, ⟨1, [], .slice ao4 u1.length cap5⟩, ⟨12, [], i6 (u0.length : Int)⟩, ⟨13, [], i6 0⟩] B := C.reg
 obtain ⟨aa, ab, ac, ad⟩ := Y
 refine lp (ι := Int) (fun s => [⟨0, [], .slice ao1 u0.length cap2⟩, ⟨1, [], .slice ao4 u1.length cap5⟩, ⟨12, [], i6 (u0.length : Int)⟩, ⟨13, [], i6 s⟩]) (fun s => []) (fun s => Z) (fun s => aa s) (fun s => ab s) 0 ac (by exact D.reg) (by exact b) ?_
 rintro a ae af ag F G
 have m := ad a ae
 refine sqB F G [] [] [(14, .bool (decide (a < (u0.length : Int))))] ?_; intro aG f
 refine s_ (c_ f m (fun _ ah => ?_) fun _ aA => ?_)
 ·
  refine k_ (s_ (b_ (sqB f G [] [] [(5, i6 a)] ?_))); intro ai I
  have J : Fr 26 [] [⟨0, [], .slice ao1 u0.length cap2⟩, ⟨1, [], .slice ao4 u1.length cap5⟩, ⟨5, [], i6 a⟩, ⟨12, [], i6 (u0.length : Int)⟩, ⟨13, [], i6 a⟩] ai := I.reg
  refine sqQH mixed (by kernel_rfl) G ?_; intro aj L
  refine q1 J 16 (.slice ao1 u0.length cap2) ?_; intro aH M
  refine q1 M 17 (i6 a) ?_; intro aI N
  obtain ⟨ak, O⟩ := ah
  refine qx_ N hs3 a ak .i64 5 1 ?_; intro aJ aK al h aL am an ao u
  have ap := O h am
  obtain rfl : al = ([y8 h] : List Value) := ao
  refine qz_ u an 0 (y8 h) rfl ?_; intro aM P
  refine q1 P 20 (.slice ao4 u1.length cap5) ?_; intro aN Q
  refine q1 Q 21 (i6 a) ?_; intro aO R
  obtain ⟨aq, S⟩ := ap
  refine qx_ R hs6 a aq .i64 5 1 ?_; intro aP aQ ar i aR au av aw v
  have n := S i au
  obtain rfl : ar = ([y8 i] : List Value) := aw
  refine qz_ v av 0 (y8 i) rfl ?_; intro aS U
  refine q1 U 24 (.bool (h != i)) ?_; intro aT j
  refine qnl (L _ ?_); intro aU o
  refine c_ j n (fun _ ax => ?_) fun _ V => ?_
  ·
   refine sqB j o [] [] [(4, .bool false)] ?_; intro aV ay
   exact r_ (i_ (h_ (h_ (i_ (h_ (ra1 ay (.bool false) ⟨false, rfl, ax, o.below⟩))))))
  refine l_ (j_ (t_ (rgB j o [] [] [(13, i6 (w64 (a + 1)))] ?_))); intro aW az
  exact d_ ⟨w64 (a + 1), V.1, V.2, (az.reg).anyβ _ (by kernel_rfl), o.kp⟩
 refine x_ (y_ (y_ (z_ (t_ (sqB f G [] [] [(4, .bool true)] ?_))))); intro aX aB
 exact r_ (ra1 aB (.bool true) ⟨true, rfl, aA, G.below⟩)
theorem hasprefix0_walk (u0 : List UInt8) (u1 : List UInt8)  (Z : Fz) (w : World)  (hZ : Z.on w) {K : Bool → Prop} (hp : hasprefix0_vc u0 u1 K) : Calls Tryz.prog 63 #[str u0, str u1] w fun e w' => ∃ r : Bool, e = .returned (.bool r) ∧ K r ∧ Below w.heap.size w w' := by
 refine enter0 Tryz.func63 rfl rfl (by kernel_rfl) ?_; intro z j; have a := Mem.start w Z hZ
 refine sqB j a [] [] [] ?_; intro B l
 refine sqH ?_; intro m f
 refine bt l a 6 [] [] [(10, .bool (decide ((u0.length : Int) ≥ (u1.length : Int))))] ?_; intro C h
 refine e_ hp (fun b q => ?_) fun b x => ?_
 ·
  have n := h.reval (d := 10) (c := []) (v := .bool (decide ((u0.length : Int) ≥ (u1.length : Int)))) (by kernel_rfl) (.bool true) (by rw [b])
  refine bt n a 3 [] [11, 12, 13] [(11, str u0), (13, i6 (u1.length : Int))] ?_; intro D i
  obtain ⟨s, t⟩ := q
  refine v_ i (str (u0.take (u1.length : Int).toNat)) (wK i true) (strslH_run i (g := []) (k := .i64) rfl (by kernel_rfl) (by kernel_rfl) (by kernel_rfl) s rfl) ?_; intro E o
  refine bt o a 4 [] [15, 16, 17, 34] [(4, .bool ((u0.take (u1.length : Int).toNat) == u1))] ?_; intro F u
  apply f
  exact r_ (ra1 u (.bool ((u0.take (u1.length : Int).toNat) == u1)) ⟨(u0.take (u1.length : Int).toNat) == u1, rfl, t, a.below⟩)
 have p := h.reval (d := 10) (c := []) (v := .bool (decide ((u0.length : Int) ≥ (u1.length : Int)))) (by kernel_rfl) (.bool false) (by rw [b])
 refine bt p a 8 [] [11, 12, 13, 14, 15, 16, 17] [(4, .bool false)] ?_; intro G y
 apply f
 exact r_ (ra1 y (.bool false) ⟨false, rfl, x, a.below⟩)
def hasprefix0_fun (u0 : List UInt8) (u1 : List UInt8)  (Z : Fz) (w : World)  (hZ : Z.on w) := f_ (hasprefix0_walk u0 u1  Z w  hZ (hasprefix0_ok u0 u1))
theorem hasprefix_walk (u0 : List UInt8) (u1 : List UInt8)  (Z : Fz) (w : World)  (hZ : Z.on w) {K : Bool → Prop} (hp : hasprefix_vc u0 u1 K) : Calls Tryz.prog 29 #[str u0, str u1] w fun e w' => ∃ r : Bool, e = .returned (.bool r) ∧ K r ∧ Below w.heap.size w w' := by
 refine enter0 Tryz.func29 rfl rfl (by kernel_rfl) ?_; intro k b; have a := Mem.start w Z hZ
 refine sqB b a [] [] [] ?_; intro m c
 refine sqH ?_; intro h d
 refine bt c a 2 [] [] [(5, str u0), (6, str u1)] ?_; intro n f
 refine fc f a (hasprefix0_fun u0 u1 _ _ a.fz) ?_; intro o p g i
 refine s1 g 4 (.bool (hasprefix0 u0 u1)) ?_; intro q j
 apply d
 exact r_ (ra1 j (.bool (hasprefix0 u0 u1)) ⟨(hasprefix0 u0 u1), rfl, hp, i.below⟩)
def hasprefix_fun (u0 : List UInt8) (u1 : List UInt8)  (Z : Fz) (w : World)  (hZ : Z.on w) := f_ (hasprefix_walk u0 u1  Z w  hZ (hasprefix_ok u0 u1))
theorem fname_walk (u0 : Frame) (ao1 : Option Addr) (cap2 : Nat) (Z : Fz) (w : World) (hs3 : SlR t8 Z ao1 cap2 u0.Data) (hZ : Z.on w) {K : (List UInt8) → Prop} (hp : fname_vc u0 K) : Calls Tryz.prog 56 #[.agg #[i6 u0.ID, .bool u0.Long, .bool u0.Fast, .bool u0.Remote, i6 u0.Size, .slice ao1 u0.Data.length cap2]] w fun e w' => ∃ r : (List UInt8), e = .returned (str r) ∧ K r ∧ Below w.heap.size w w' := by
 refine enter0 Tryz.func56 rfl rfl (by kernel_rfl) ?_; intro a0 u; have v := Mem.start w Z hZ
 have f := hp (hs3.small)
 refine sqH ?_; intro U x
 refine nw u v pb (e24B u0 ao1 cap2) 24 ?_; intro a a7 ax y c
 refine s1 y 2 (str []) ?_; intro ay z
 apply x
 refine s_ (sqB z c [0] [] [(5, .bool (!u0.Long))] ?_); intro A d
 refine c_ d f (fun _ V => ?_) fun _ ag => ?_
 ·
  have B : Fr 30 [] [⟨1, [], pt a 0⟩] A := d.reg
  refine sqQH mixed (by kernel_rfl) c ?_; intro W C
  refine q1 B 6 (pt a 0) ?_; intro az i
  refine ql_ i 0 0 (i6 u0.ID) rfl rfl ?_; intro aA D
  refine q1 D 8 (y6 (wu64 u0.ID)) ?_; intro aB E
  obtain ⟨X, Y⟩ := V
  refine qcl E (str (bwriteS (wu64 u0.ID) 11)) 53 #[y6 (wu64 u0.ID), i6 11] (nog rfl _) rfl (by kernel_rfl) (fun _ => by kernel_rfl) (qfc fun w hC => bwrite_fun (wu64 u0.ID) 11 X _ _ hC.fz) ?_; intro aC F
  refine q1 F 10 (pt a 3) ?_; intro aD j
  refine ql_ j 0 3 (.bool u0.Remote) rfl rfl ?_; intro aE G
  refine qcl G (str (fbit u0.Remote)) 83 #[.bool u0.Remote] (nog rfl _) rfl (by kernel_rfl) (fun _ => by kernel_rfl) (qfc fun w hC => fbit_fun u0.Remote _ _ hC.fz) ?_; intro aF k
  obtain ⟨aa, ab⟩ := Y
  refine qu_ k (str ((bwriteS (wu64 u0.ID) 11) ++ (fbit u0.Remote))) (fun v47 hC => stradd_run k (g := []) rfl (by kernel_rfl) (by kernel_rfl) aa rfl) ?_; intro aG l
  obtain ⟨ac, ad⟩ := ab
  refine qu_ l (str (((bwriteS (wu64 u0.ID) 11) ++ (fbit u0.Remote)) ++ ([48] : List UInt8))) (fun v52 hC => stradd_run l (g := []) rfl (by kernel_rfl) (by kernel_rfl) ac rfl) ?_; intro aH H
  refine q1 H 2 (str (((bwriteS (wu64 u0.ID) 11) ++ (fbit u0.Remote)) ++ ([48] : List UInt8))) ?_; intro aI ae
  refine qnl (C _ ?_); intro aJ af
  exact r_ (h_ (ra1 ae (str (((bwriteS (wu64 u0.ID) 11) ++ (fbit u0.Remote)) ++ ([48] : List UInt8))) ⟨((bwriteS (wu64 u0.ID) 11) ++ (fbit u0.Remote)) ++ ([48] : List UInt8), rfl, ad, af.below⟩))
 apply k_
 have I : Fr 30 [] [⟨1, [], pt a 0⟩] A := d.reg
 refine sqQH mixed (by kernel_rfl) c ?_; intro ah J
 refine q1 I 15 (pt a 0) ?_; intro aK m
 refine ql_ m 0 0 (i6 u0.ID) rfl rfl ?_; intro aL L
 refine q1 L 17 (i6 (bShr .i64 u0.ID 18)) ?_; intro aM M
 refine q1 M 18 (y6 (wu64 (bShr .i64 u0.ID 18))) ?_; intro aN N
 obtain ⟨ai, aj⟩ := ag
 refine qcl N (str (bwriteS (wu64 (bShr .i64 u0.ID 18)) 11)) 53 #[y6 (wu64 (bShr .i64 u0.ID 18)), i6 11] (nog rfl _) rfl (by kernel_rfl) (fun _ => by kernel_rfl) (qfc fun w hC => bwrite_fun (wu64 (bShr .i64 u0.ID 18)) 11 ai _ _ hC.fz) ?_; intro aO n
 obtain ⟨ak, al⟩ := aj
 refine qu_ n (str ((bwriteS (wu64 (bShr .i64 u0.ID 18)) 11) ++ ([49, 49] : List UInt8))) (fun v82 hC => stradd_run n (g := []) rfl (by kernel_rfl) (by kernel_rfl) ak rfl) ?_; intro aP O
 refine q1 O 21 (pt a 0) ?_; intro aQ o
 refine ql_ o 0 0 (i6 u0.ID) rfl rfl ?_; intro aR P
 refine q1 P 23 (y6 (wu64 u0.ID)) ?_; intro aS Q
 obtain ⟨am, an⟩ := al
 refine qcl Q (str (bwriteS (wu64 u0.ID) 18)) 53 #[y6 (wu64 u0.ID), i6 18] (nog rfl _) rfl (by kernel_rfl) (fun _ => by kernel_rfl) (qfc fun w hC => bwrite_fun (wu64 u0.ID) 18 am _ _ hC.fz) ?_; intro aT p
 obtain ⟨ao, ap⟩ := an
 refine qu_ p (str (((bwriteS (wu64 (bShr .i64 u0.ID 18)) 11) ++ ([49, 49] : List UInt8)) ++ (bwriteS (wu64 u0.ID) 18))) (fun v101 hC => stradd_run p (g := []) rfl (by kernel_rfl) (by kernel_rfl) ao rfl) ?_; intro aU R
 refine q1 R 26 (pt a 3) ?_; intro aV q
 refine ql_ q 0 3 (.bool u0.Remote) rfl rfl ?_; intro aW S
 refine qcl S (str (fbit u0.Remote)) 83 #[.bool u0.Remote] (nog rfl _) rfl (by kernel_rfl) (fun _ => by kernel_rfl) (qfc fun w hC => fbit_fun u0.Remote _ _ hC.fz) ?_; intro aX s
 obtain ⟨aq, ar⟩ := ap
 refine qu_ s (str ((((bwriteS (wu64 (bShr .i64 u0.ID 18)) 11) ++ ([49, 49] : List UInt8)) ++ (bwriteS (wu64 u0.ID) 18)) ++ (fbit u0.Remote))) (fun v115 hC => stradd_run s (g := []) rfl (by kernel_rfl) (by kernel_rfl) aq rfl) ?_; intro aY T
 refine q1 T 2 (str ((((bwriteS (wu64 (bShr .i64 u0.ID 18)) 11) ++ ([49, 49] : List UInt8)) ++ (bwriteS (wu64 u0.ID) 18)) ++ (fbit u0.Remote))) ?_; intro aZ au
 refine qnl (J _ ?_); intro a1 av
 exact r_ (ra1 au (str ((((bwriteS (wu64 (bShr .i64 u0.ID 18)) 11) ++ ([49, 49] : List UInt8)) ++ (bwriteS (wu64 u0.ID) 18)) ++ (fbit u0.Remote))) ⟨(((bwriteS (wu64 (bShr .i64 u0.ID 18)) 11) ++ ([49, 49] : List UInt8)) ++ (bwriteS (wu64 u0.ID) 18)) ++ (fbit u0.Remote), rfl, ar, av.below⟩)
theorem fcheckfr_walk (u0 : Frame) (ao1 : Option Addr) (cap2 : Nat) (Z : Fz) (w : World) (hs3 : SlR t8 Z ao1 cap2 u0.Data) (hZ : Z.on w) {K : Int → Prop} (hp : fcheckfr_vc u0 K) : Calls Tryz.prog 61 #[.agg #[i6 u0.ID, .bool u0.Long, .bool u0.Fast, .bool u0.Remote, i6 u0.Size, .slice ao1 u0.Data.length cap2]] w fun e w' => ∃ r : Int, e = .returned (i6 r) ∧ K r ∧ Below w.heap.size w w' := by
 refine enter0 Tryz.func61 rfl rfl (by kernel_rfl) ?_; intro a0 C; have D := Mem.start w Z hZ
 have k := hp (hs3.small)
 refine sqH ?_; intro V E
 refine nw C D pb (e24B u0 ao1 cap2) 24 ?_; intro l a7 aq F a
 refine s1 F 2 (i6 0) ?_; intro ar G
 apply E
 refine s_ (b_ (sqB G a [0, 0, 0, 0] [] [(3, .bool (((decide (u0.ID < 0)) || ((!u0.Long) && (decide (u0.ID > 2047)))) || (decide (u0.ID > 536870911))))] ?_)); intro au c
 refine c_ c k (fun _ W => ?_) fun _ m => ?_
 ·
  refine sqB c a [] [] [(2, i6 3)] ?_; intro av X
  exact r_ (i_ (h_ (ra1 X (i6 3) ⟨3, rfl, W, a.below⟩)))
 refine sqB c a [0, 0, 0] [] [(22, .bool (u0.Remote && (u0.Fast || (decide ((u0.Data.length : Int) > 0)))))] ?_; intro aw d
 refine c_ d m (fun _ Y => ?_) fun _ n => ?_
 ·
  refine sqB d a [] [] [(2, i6 4)] ?_; intro ax aa
  exact r_ (i_ (h_ (ra1 aa (i6 4) ⟨4, rfl, Y, a.below⟩)))
 refine sqB d a [0, 0, 0, 0] [] [(35, .bool (((decide (u0.Size < 0)) || (decide (u0.Size > 8))) || ((!u0.Remote) && (u0.Size != 0))))] ?_; intro ay f
 refine c_ f n (fun _ ab => ?_) fun _ o => ?_
 ·
  refine sqB f a [] [] [(2, i6 3)] ?_; intro az ac
  exact r_ (i_ (h_ (ra1 ac (i6 3) ⟨3, rfl, ab, a.below⟩)))
 refine sqB f a [0, 0, 0] [] [(54, .bool ((decide ((u0.Data.length : Int) > 64)) || ((!u0.Fast) && (decide ((u0.Data.length : Int) > 8)))))] ?_; intro ad g
 refine c_ g o (fun _ ae => ?_) fun _ p => ?_
 ·
  refine sqB g a [] [] [(2, i6 2)] ?_; intro aA af
  exact r_ (i_ (h_ (ra1 af (i6 2) ⟨2, rfl, ae, a.below⟩)))
 have H : Fr 77 [] [⟨1, [], pt l 0⟩] ad := g.reg
 refine wp_seq (rgS mixed a [(1, true), (2, true), (3, true), (0, false), (4, false), (5, true), (6, true)] [] [0] [.row l (e24B u0 ao1 cap2) 24] ?_)
 intro ag I aB x
 have b := Fz.le.refl Z
 refine cS H 3 [0] [] [(74, i6 (u0.Data.length : Int))] ?_; intro aC J
 refine eS rfl ?_; intro ah L
 refine ck J 20 #[] ?_
 refine (fsizes_fun  _ _ x.fz).mono ?_; rintro _ M ⟨N, O, ai, rfl, hm⟩; refine ⟨_, rfl, ?_⟩; intro aD P; have Q := x.callZ hm; have y := hm.ext.le
 replace b := b.mono y
 have R : Mem w.heap.size [] w Z [.own t6 3 N O fsizes, .row l (e24B u0 ao1 cap2) 24] ai M := Q
 refine nl (qnI (L _ _ (R.cst b [1]) ?_))
 refine eS rfl ?_; intro aj S
 obtain ⟨ak, z, T, al⟩ := R.freeze 0 rfl
 replace b := b.mono z
 have A : Mem w.heap.size [] w Z [.row l (e24B u0 ao1 cap2) 24] ak M := T
 refine fc P A (scontains_fun fsizes (u0.Data.length : Int) N O _ _ al A.fz) ?_; intro aE aF U h
 refine nl (qnI (S _ _ (h.cst b [0]) ?_))
 refine cS U 2 [] [] [(70, .bool (!(scontainsS fsizes (u0.Data.length : Int))))] ?_; intro aG i
 refine nS (I _ _ ?_)
 refine t_ (c_ i p (fun _ am => ?_) fun _ ao => ?_)
 ·
  refine sqB i h [] [] [(2, i6 4)] ?_; intro aH an
  exact r_ (i_ (h_ (ra1 an (i6 4) ⟨4, rfl, am, h.below⟩)))
 refine l_ (j_ (t_ (sqB i h [] [] [(2, i6 0)] ?_))); intro aI ap
 exact r_ (ra1 ap (i6 0) ⟨0, rfl, ao, h.below⟩)
def fcheckfr_fun (u0 : Frame) (ao1 : Option Addr) (cap2 : Nat) (Z : Fz) (w : World) (hs3 : SlR t8 Z ao1 cap2 u0.Data) (hZ : Z.on w) := f_ (fcheckfr_walk u0 ao1 cap2 Z w hs3 hZ (fcheckfr_ok u0))
theorem fcount_walk (u0 : Int)  (Z : Fz) (w : World)  (hZ : Z.on w) {K : (List UInt8) → Prop} (hp : fcount_vc u0 K) : Calls Tryz.prog 49 #[i6 u0] w fun e w' => ∃ r : (List UInt8), e = .returned (str r) ∧ K r ∧ Below w.heap.size w w' := by
 refine enter0 Tryz.func49 rfl rfl (by kernel_rfl) ?_; intro D d; have a := Mem.start w Z hZ
 refine sqB d a [] [] [] ?_; intro F f
 refine sqB f a [] [] [(3, i6 (bXor .i64 (u0.tmod 8) (bShr .i64 (u0.tmod 8) 1)))] ?_; intro G g
 refine sqH ?_; intro s h
 refine bt g a 2 [] [] [(12, y6 (wu64 (bXor .i64 (u0.tmod 8) (bShr .i64 (u0.tmod 8) 1))))] ?_; intro H i
 obtain ⟨t, u⟩ := hp
 refine fc i a (bwrite_fun (wu64 (bXor .i64 (u0.tmod 8) (bShr .i64 (u0.tmod 8) 1))) 3 t _ _ a.fz) ?_; intro I J j b
 refine s1 j 4 (str (bwriteS (wu64 (bXor .i64 (u0.tmod 8) (bShr .i64 (u0.tmod 8) 1))) 3)) ?_; intro L k
 apply h
 refine sqH ?_; intro v l
 refine bt k b 2 [] [] [(14, str (bwriteS (wu64 (bXor .i64 (u0.tmod 8) (bShr .i64 (u0.tmod 8) 1))) 3)), (15, str (bwriteS (wu64 (bXor .i64 (u0.tmod 8) (bShr .i64 (u0.tmod 8) 1))) 3))] ?_; intro M m
 obtain ⟨x, y⟩ := u
 refine fc m b (count1_fun (bwriteS (wu64 (bXor .i64 (u0.tmod 8) (bShr .i64 (u0.tmod 8) 1))) 3) ([49] : List UInt8) x _ _ b.fz) ?_; intro N O n c
 refine bt n c 2 [] [] [(18, .bool (((count1S (bwriteS (wu64 (bXor .i64 (u0.tmod 8) (bShr .i64 (u0.tmod 8) 1))) 3) ([49] : List UInt8)).tmod 2) == 1))] ?_; intro P o
 refine fc o c (fbit_fun (((count1S (bwriteS (wu64 (bXor .i64 (u0.tmod 8) (bShr .i64 (u0.tmod 8) 1))) 3) ([49] : List UInt8)).tmod 2) == 1) _ _ c.fz) ?_; intro Q R p z
 obtain ⟨A, B⟩ := y
 refine sa p A ?_; intro S q
 refine s1 q 2 (str ((bwriteS (wu64 (bXor .i64 (u0.tmod 8) (bShr .i64 (u0.tmod 8) 1))) 3) ++ (fbit (((count1S (bwriteS (wu64 (bXor .i64 (u0.tmod 8) (bShr .i64 (u0.tmod 8) 1))) 3) ([49] : List UInt8)).tmod 2) == 1)))) ?_; intro T C
 apply l
 exact r_ (ra1 C (str ((bwriteS (wu64 (bXor .i64 (u0.tmod 8) (bShr .i64 (u0.tmod 8) 1))) 3) ++ (fbit (((count1S (bwriteS (wu64 (bXor .i64 (u0.tmod 8) (bShr .i64 (u0.tmod 8) 1))) 3) ([49] : List UInt8)).tmod 2) == 1)))) ⟨(bwriteS (wu64 (bXor .i64 (u0.tmod 8) (bShr .i64 (u0.tmod 8) 1))) 3) ++ (fbit (((count1S (bwriteS (wu64 (bXor .i64 (u0.tmod 8) (bShr .i64 (u0.tmod 8) 1))) 3) ([49] : List UInt8)).tmod 2) == 1)), rfl, B, z.below⟩)
end Go.Proofs.YtmnlahbngbigdaaGreatDoor
set_option linter.unusedVariables false
set_option linter.unusedSimpArgs false
set_option linter.defProp false
set_option maxRecDepth 100000
set_option maxHeartbeats 0
namespace Go.Proofs.YtmnlahbngbigdaaGreatDoor
open Go.Sy Go.RowKit
abbrev e24C (X : Frame) (A0 : Option Addr) (C0 : Nat) : List Value := [i6 X.ID, .bool X.Long, .bool X.Fast, .bool X.Remote, i6 X.Size, .slice A0 X.Data.length C0]
def csum_fun (u0 : Int) (u1 : List UInt8)  (Z : Fz) (w : World)  (hZ : Z.on w) := f_ (csum_walk u0 u1  Z w  hZ (csum_ok u0 u1))
def bof_fun (u0 : List Int) (hpre : ∀ x ∈ u0, 0 ≤ x ∧ x ≤ 255) (ao1 : Option Addr) (cap2 : Nat) (Z : Fz) (w : World) (hs3 : SlR t8 Z ao1 cap2 u0) (hZ : Z.on w) := f_ (bof_walk u0 ao1 cap2 Z w hs3 hZ (bof_ok u0 hpre))
def rtakeF_fun (u0 : FReader) (u1 : Int) (hpre : Rok u0.Reader ∧ u1 ≤ 9223372036854775807) (b1 : Nat) (ao2 : Option Addr) (cap3 : Nat) (B : Nat) (w0 : World) (Z0 : Fz) (Rr : List Res) (Z : Fz) (w : World) (hs4 : SlR t8 Z ao2 cap3 u0.f.Data) (hM0 : Mem B [] w0 Z0 ((.row b1 [str u0.Reader.Row, i6 u0.Reader.At, i6 u0.Reader.Code, y8 u0.Reader.c.last, i6 u0.Reader.c.n, i6 u0.f.ID, .bool u0.f.Long, .bool u0.f.Fast, .bool u0.f.Remote, i6 u0.f.Size, .slice ao2 u0.f.Data.length cap3] 46) :: Rr) Z w) (hZ : Z.on w) := fc_ (rtakeF_walk u0 u1 b1 ao2 cap3 B w0 Z0 Rr Z w hs4 hM0 hZ (rtakeF_ok u0 u1 hpre))
theorem rtakeF_funK (u0 : FReader) (u1 : Int) (hpre : Rok u0.Reader ∧ u1 ≤ 9223372036854775807) (b1 : Nat) (ao2 : Option Addr) (cap3 : Nat) (B : Nat) (w0 : World) (Z0 : Fz) (Rr : List Res) (Z : Fz) (w : World) (hs4 : SlR t8 Z ao2 cap3 u0.f.Data) (hM0 : Mem B [] w0 Z0 ((.row b1 [str u0.Reader.Row, i6 u0.Reader.At, i6 u0.Reader.Code, y8 u0.Reader.c.last, i6 u0.Reader.c.n, i6 u0.f.ID, .bool u0.f.Long, .bool u0.f.Fast, .bool u0.f.Remote, i6 u0.f.Size, .slice ao2 u0.f.Data.length cap3] 46) :: Rr) Z w) (hZ : Z.on w) : Calls Tryz.prog 21 #[pt b1 0, i6 u1] w fun e w' => ∃ (ao1001 : Option Addr) (cap1002 : Nat) (Z' : Fz), e = .returned (str (rtakeFS u0 u1).1) ∧ Fz.le Z Z' ∧ SlR t8 Z' ao1001 cap1002 u0.f.Data ∧ Mem B [] w0 Z0 ((.row b1 [str (rtakeFS u0 u1).2.Reader.Row, i6 (rtakeFS u0 u1).2.Reader.At, i6 (rtakeFS u0 u1).2.Reader.Code, y8 (rtakeFS u0 u1).2.Reader.c.last, i6 (rtakeFS u0 u1).2.Reader.c.n, i6 u0.f.ID, .bool u0.f.Long, .bool u0.f.Fast, .bool u0.f.Remote, i6 u0.f.Size, .slice ao1001 u0.f.Data.length cap1002] 46) :: Rr) Z' w' :=
 (rtakeF_walk u0 u1 b1 ao2 cap3 B w0 Z0 Rr Z w hs4 hM0 hZ (rtakeF_ok u0 u1 hpre)).mono fun _ _ ⟨r, h0, h1, h2, he, hk, f0, f1, hm⟩ => by subst hk; have hkp : (rtakeFS u0 u1).2.f = u0.f := rtakeFS_f u0 u1; (try simp only [hkp] at *); exact ⟨h0, h1, h2, he, f0, f1, hm⟩
def rplainF_fun (u0 : FReader) (u1 : Int) (hpre : (0 ≤ u0.Reader.At ∧ u0.Reader.At ≤ (u0.Reader.Row.length : Int) ∧ u0.Reader.Row.length ≤ 1000000) ∧ u1 ≤ 1000000) (b1 : Nat) (ao2 : Option Addr) (cap3 : Nat) (B : Nat) (w0 : World) (Z0 : Fz) (Rr : List Res) (Z : Fz) (w : World) (hs4 : SlR t8 Z ao2 cap3 u0.f.Data) (hM0 : Mem B [] w0 Z0 ((.row b1 [str u0.Reader.Row, i6 u0.Reader.At, i6 u0.Reader.Code, y8 u0.Reader.c.last, i6 u0.Reader.c.n, i6 u0.f.ID, .bool u0.f.Long, .bool u0.f.Fast, .bool u0.f.Remote, i6 u0.f.Size, .slice ao2 u0.f.Data.length cap3] 46) :: Rr) Z w) (hZ : Z.on w) := fc_ (rplainF_walk u0 u1 b1 ao2 cap3 B w0 Z0 Rr Z w hs4 hM0 hZ (rplainF_ok u0 u1 hpre))
theorem rplainF_funK (u0 : FReader) (u1 : Int) (hpre : (0 ≤ u0.Reader.At ∧ u0.Reader.At ≤ (u0.Reader.Row.length : Int) ∧ u0.Reader.Row.length ≤ 1000000) ∧ u1 ≤ 1000000) (b1 : Nat) (ao2 : Option Addr) (cap3 : Nat) (B : Nat) (w0 : World) (Z0 : Fz) (Rr : List Res) (Z : Fz) (w : World) (hs4 : SlR t8 Z ao2 cap3 u0.f.Data) (hM0 : Mem B [] w0 Z0 ((.row b1 [str u0.Reader.Row, i6 u0.Reader.At, i6 u0.Reader.Code, y8 u0.Reader.c.last, i6 u0.Reader.c.n, i6 u0.f.ID, .bool u0.f.Long, .bool u0.f.Fast, .bool u0.f.Remote, i6 u0.f.Size, .slice ao2 u0.f.Data.length cap3] 46) :: Rr) Z w) (hZ : Z.on w) : Calls Tryz.prog 26 #[pt b1 0, i6 u1] w fun e w' => ∃ (ao1001 : Option Addr) (cap1002 : Nat) (Z' : Fz), e = .returned (str (rplainFS u0 u1).1) ∧ Fz.le Z Z' ∧ SlR t8 Z' ao1001 cap1002 u0.f.Data ∧ Mem B [] w0 Z0 ((.row b1 [str (rplainFS u0 u1).2.Reader.Row, i6 (rplainFS u0 u1).2.Reader.At, i6 (rplainFS u0 u1).2.Reader.Code, y8 (rplainFS u0 u1).2.Reader.c.last, i6 (rplainFS u0 u1).2.Reader.c.n, i6 u0.f.ID, .bool u0.f.Long, .bool u0.f.Fast, .bool u0.f.Remote, i6 u0.f.Size, .slice ao1001 u0.f.Data.length cap1002] 46) :: Rr) Z' w' :=
 (rplainF_walk u0 u1 b1 ao2 cap3 B w0 Z0 Rr Z w hs4 hM0 hZ (rplainF_ok u0 u1 hpre)).mono fun _ _ ⟨r, h0, h1, h2, he, hk, f0, f1, hm⟩ => by subst hk; have hkp : (rplainFS u0 u1).2.f = u0.f := rplainFS_f u0 u1; (try simp only [hkp] at *); exact ⟨h0, h1, h2, he, f0, f1, hm⟩
def sput_fun (u0 : List UInt8)  (Z : Fz) (w : World)  (hZ : Z.on w) := f_ (sput_walk u0  Z w  hZ (sput_ok u0))
def sfixed_fun (u0 : List UInt8) (u1 : Int)  (Z : Fz) (w : World)  (hZ : Z.on w) := f_ (sfixed_walk u0 u1  Z w  hZ (sfixed_ok u0 u1))
def bbytes_fun (u0 : List UInt8)  (Z : Fz) (w : World)  (hZ : Z.on w) := fc_ (bbytes_walk u0  Z w  hZ (bbytes_ok u0))
def beq_fun (u0 : List Int) (u1 : List Int) (ao1 : Option Addr) (cap2 : Nat) (ao4 : Option Addr) (cap5 : Nat) (Z : Fz) (w : World) (hs3 : SlR t8 Z ao1 cap2 u0) (hs6 : SlR t8 Z ao4 cap5 u1) (hZ : Z.on w) := f_ (beq_walk u0 u1 ao1 cap2 ao4 cap5 Z w hs3 hs6 hZ (beq_ok u0 u1))
def fname_fun (u0 : Frame) (hpre : 0 ≤ u0.ID ∧ u0.ID ≤ 536870911) (ao1 : Option Addr) (cap2 : Nat) (Z : Fz) (w : World) (hs3 : SlR t8 Z ao1 cap2 u0.Data) (hZ : Z.on w) := f_ (fname_walk u0 ao1 cap2 Z w hs3 hZ (fname_ok u0 hpre))
def fcount_fun (u0 : Int) (hpre : 0 ≤ u0)  (Z : Fz) (w : World)  (hZ : Z.on w) := f_ (fcount_walk u0  Z w  hZ (fcount_ok u0 hpre))
theorem fhead_walk (u0 : Frame) (ao1 : Option Addr) (cap2 : Nat) (Z : Fz) (w : World) (hs3 : SlR t8 Z ao1 cap2 u0.Data) (hZ : Z.on w) {K : (List UInt8) → Prop} (hp : fhead_vc u0 K) : Calls Tryz.prog 25 #[.agg #[i6 u0.ID, .bool u0.Long, .bool u0.Fast, .bool u0.Remote, i6 u0.Size, .slice ao1 u0.Data.length cap2]] w fun e w' => ∃ r : (List UInt8), e = .returned (str r) ∧ K r ∧ Below w.heap.size w w' := by
 refine enter0 Tryz.func25 rfl rfl (by kernel_rfl) ?_; intro a0 L; have M := Mem.start w Z hZ
 have u := hp (hs3.small)
 refine sqH ?_; intro bS N
 refine nw L M pb (e24C u0 ao1 cap2) 24 ?_; intro v a7 dN O c
 refine s1 O 2 (str []) ?_; intro dO P
 apply N
 refine sqB P c [0] [] [(3, i6 u0.Size)] ?_; intro dP Q
 refine s_ (sqB Q c [0] [] [(11, .bool (!u0.Remote))] ?_); intro bT f
 refine c_ f u (fun _ bU => ?_) fun _ cV => ?_
 ·
  have R : Fr 45 [] [⟨1, [], pt v 0⟩] bT := f.reg
  refine rgS mixed c [(1, true), (2, true), (3, true), (0, false), (4, false), (5, true)] [] [0] [.row v (e24C u0 ao1 cap2) 24] ?_
  intro bV S dQ C
  have d := Fz.le.refl Z
  refine cS R 3 [0] [] [(15, i6 (u0.Data.length : Int))] ?_; intro dR T
  refine eS rfl ?_; intro bW U
  refine ck T 20 #[] ?_
  refine (fsizes_fun  _ _ C.fz).mono ?_; rintro _ V ⟨W, X, bX, rfl, hm⟩; refine ⟨_, rfl, ?_⟩; intro dS Y; have aa := C.callZ hm; have D := hm.ext.le
  replace hs3 := hs3.mono D
  replace d := d.mono D
  have ab : Mem w.heap.size [] w Z [.own t6 3 W X fsizes, .row v (e24C u0 ao1 cap2) 24] bX V := aa
  refine nl (qnI (U _ _ (ab.cst d [1]) ?_))
  refine eS rfl ?_; intro bY ac
  obtain ⟨bZ, E, ad, b0⟩ := ab.freeze 0 rfl
  replace hs3 := hs3.mono E
  replace d := d.mono E
  have F : Mem w.heap.size [] w Z [.row v (e24C u0 ao1 cap2) 24] bZ V := ad
  refine fc Y F (sindex_fun fsizes (u0.Data.length : Int) W X _ _ b0 F.fz) ?_; intro dT dU ae g
  refine nl (qnI (ac _ _ (g.cst d [0]) ?_))
  refine cS ae 1 [] [] [(3, i6 (sindexS fsizes (u0.Data.length : Int)))] ?_; intro dV af
  refine nS (S _ _ ?_)
  refine t_ (sqH ?_); intro b1 ag
  refine l2 af g 17 0 0 6 (e24C u0 ao1 cap2) rfl rfl ?_; intro dW ah
  obtain ⟨b2, b3⟩ := bU
  refine fc ah g (fname_fun u0 b2 ao1 cap2 _ _ hs3 g.fz) ?_; intro dX dY ai a
  obtain ⟨b4, x⟩ := b3
  refine sa ai b4 ?_; intro dZ aj
  refine s1 aj 4 (str (([48] : List UInt8) ++ (fnameS u0))) ?_; intro d0 ak
  apply ag
  refine s_ (b_ (sqB ak a [0] [] [(22, .bool u0.Fast)] ?_)); intro d1 h
  refine c_ h x (fun _ b5 => ?_) fun _ y => ?_
  ·
   refine rgH ?_; intro b7 al
   refine s1 h 25 (str (([48] : List UInt8) ++ (fnameS u0))) ?_; intro d2 am
   obtain ⟨b8, b9⟩ := b5
   refine sa am b8 ?_; intro d3 an
   refine s1 an 4 (str ((([48] : List UInt8) ++ (fnameS u0)) ++ ([49, 48, 49, 48] : List UInt8))) ?_; intro d4 ao
   apply al
   refine j_ (t_ (sqH ?_)); intro ca ap
   refine bt ao a 2 [0] [] [(34, .slice ao1 u0.Data.length cap2)] ?_; intro d5 aq
   obtain ⟨cb, cc⟩ := b9
   refine fc aq a (bof_fun u0.Data cb ao1 cap2 _ _ hs3 a.fz) ?_; intro d6 d7 ar i
   refine bt ar i 5 [] [] [(5, str (bofS u0.Data).1)] ?_; intro d8 au
   apply ap
   refine sqH ?_; intro ce av
   refine bt au i 3 [] [] [(38, str ((([48] : List UInt8) ++ (fnameS u0)) ++ ([49, 48, 49, 48] : List UInt8))), (40, y6 (wu64 (sindexS fsizes (u0.Data.length : Int))))] ?_; intro d9 aw
   obtain ⟨cf, cg⟩ := cc
   refine fc aw i (bwrite_fun (wu64 (sindexS fsizes (u0.Data.length : Int))) 4 cf _ _ i.fz) ?_; intro ea eb ax ch
   obtain ⟨ci, cj⟩ := cg
   refine sa ax ci ?_; intro ec ay
   refine s1 ay 43 (str (bofS u0.Data).1) ?_; intro ed az
   obtain ⟨cl, cm⟩ := cj
   refine sa az cl ?_; intro ee aA
   refine s1 aA 2 (str ((((([48] : List UInt8) ++ (fnameS u0)) ++ ([49, 48, 49, 48] : List UInt8)) ++ (bwriteS (wu64 (sindexS fsizes (u0.Data.length : Int))) 4)) ++ (bofS u0.Data).1)) ?_; intro ef cn
   apply av
   exact r_ (ra1 cn (str ((((([48] : List UInt8) ++ (fnameS u0)) ++ ([49, 48, 49, 48] : List UInt8)) ++ (bwriteS (wu64 (sindexS fsizes (u0.Data.length : Int))) 4)) ++ (bofS u0.Data).1)) ⟨(((([48] : List UInt8) ++ (fnameS u0)) ++ ([49, 48, 49, 48] : List UInt8)) ++ (bwriteS (wu64 (sindexS fsizes (u0.Data.length : Int))) 4)) ++ (bofS u0.Data).1, rfl, cm, ch.below⟩)
  refine sqB h a [0] [] [(27, .bool u0.Long)] ?_; intro eg j
  refine c_ j y (fun _ co => ?_) fun _ cE => ?_
  ·
   refine rgH ?_; intro cp aB
   refine s1 j 30 (str (([48] : List UInt8) ++ (fnameS u0))) ?_; intro eh aC
   obtain ⟨cq, cr⟩ := co
   refine sa aC cq ?_; intro ei aD
   refine s1 aD 4 (str ((([48] : List UInt8) ++ (fnameS u0)) ++ ([48, 48] : List UInt8))) ?_; intro ej aE
   apply aB
   refine j_ (t_ (sqH ?_)); intro cs aF
   refine bt aE a 2 [0] [] [(34, .slice ao1 u0.Data.length cap2)] ?_; intro ek aG
   obtain ⟨ct, cu⟩ := cr
   refine fc aG a (bof_fun u0.Data ct ao1 cap2 _ _ hs3 a.fz) ?_; intro el em aH k
   refine bt aH k 5 [] [] [(5, str (bofS u0.Data).1)] ?_; intro en aI
   apply aF
   refine sqH ?_; intro cv aJ
   refine bt aI k 3 [] [] [(38, str ((([48] : List UInt8) ++ (fnameS u0)) ++ ([48, 48] : List UInt8))), (40, y6 (wu64 (sindexS fsizes (u0.Data.length : Int))))] ?_; intro eo aK
   obtain ⟨cw, cx⟩ := cu
   refine fc aK k (bwrite_fun (wu64 (sindexS fsizes (u0.Data.length : Int))) 4 cw _ _ k.fz) ?_; intro ep eq aL cy
   obtain ⟨cz, cA⟩ := cx
   refine sa aL cz ?_; intro er aM
   refine s1 aM 43 (str (bofS u0.Data).1) ?_; intro es aN
   obtain ⟨cB, cC⟩ := cA
   refine sa aN cB ?_; intro et aO
   refine s1 aO 2 (str ((((([48] : List UInt8) ++ (fnameS u0)) ++ ([48, 48] : List UInt8)) ++ (bwriteS (wu64 (sindexS fsizes (u0.Data.length : Int))) 4)) ++ (bofS u0.Data).1)) ?_; intro eu cD
   apply aJ
   exact r_ (ra1 cD (str ((((([48] : List UInt8) ++ (fnameS u0)) ++ ([48, 48] : List UInt8)) ++ (bwriteS (wu64 (sindexS fsizes (u0.Data.length : Int))) 4)) ++ (bofS u0.Data).1)) ⟨(((([48] : List UInt8) ++ (fnameS u0)) ++ ([48, 48] : List UInt8)) ++ (bwriteS (wu64 (sindexS fsizes (u0.Data.length : Int))) 4)) ++ (bofS u0.Data).1, rfl, cC, cy.below⟩)
  refine rgH ?_; intro cF aP
  refine s1 j 20 (str (([48] : List UInt8) ++ (fnameS u0))) ?_; intro ev aQ
  obtain ⟨cG, cH⟩ := cE
  refine sa aQ cG ?_; intro ew aR
  refine s1 aR 4 (str ((([48] : List UInt8) ++ (fnameS u0)) ++ ([48] : List UInt8))) ?_; intro ex aS
  apply aP
  refine j_ (t_ (sqH ?_)); intro cI aT
  refine bt aS a 2 [0] [] [(34, .slice ao1 u0.Data.length cap2)] ?_; intro ey aU
  obtain ⟨cJ, cK⟩ := cH
  refine fc aU a (bof_fun u0.Data cJ ao1 cap2 _ _ hs3 a.fz) ?_; intro ez eA aV l
  refine bt aV l 5 [] [] [(5, str (bofS u0.Data).1)] ?_; intro eB aW
  apply aT
  refine sqH ?_; intro cL aX
  refine bt aW l 3 [] [] [(38, str ((([48] : List UInt8) ++ (fnameS u0)) ++ ([48] : List UInt8))), (40, y6 (wu64 (sindexS fsizes (u0.Data.length : Int))))] ?_; intro eC aY
  obtain ⟨cM, cN⟩ := cK
  refine fc aY l (bwrite_fun (wu64 (sindexS fsizes (u0.Data.length : Int))) 4 cM _ _ l.fz) ?_; intro eD eE aZ cO
  obtain ⟨cP, cQ⟩ := cN
  refine sa aZ cP ?_; intro eF a1
  refine s1 a1 43 (str (bofS u0.Data).1) ?_; intro eG a2
  obtain ⟨cR, cT⟩ := cQ
  refine sa a2 cR ?_; intro eH a3
  refine s1 a3 2 (str ((((([48] : List UInt8) ++ (fnameS u0)) ++ ([48] : List UInt8)) ++ (bwriteS (wu64 (sindexS fsizes (u0.Data.length : Int))) 4)) ++ (bofS u0.Data).1)) ?_; intro eI cU
  apply aX
  exact r_ (ra1 cU (str ((((([48] : List UInt8) ++ (fnameS u0)) ++ ([48] : List UInt8)) ++ (bwriteS (wu64 (sindexS fsizes (u0.Data.length : Int))) 4)) ++ (bofS u0.Data).1)) ⟨(((([48] : List UInt8) ++ (fnameS u0)) ++ ([48] : List UInt8)) ++ (bwriteS (wu64 (sindexS fsizes (u0.Data.length : Int))) 4)) ++ (bofS u0.Data).1, rfl, cT, cO.below⟩)
 refine k_ (sqH ?_); intro cW a4
 refine l2 f c 17 0 0 6 (e24C u0 ao1 cap2) rfl rfl ?_; intro eJ a5
 obtain ⟨cX, cY⟩ := cV
 refine fc a5 c (fname_fun u0 cX ao1 cap2 _ _ hs3 c.fz) ?_; intro eK eL a6 b
 obtain ⟨cZ, z⟩ := cY
 refine sa a6 cZ ?_; intro eM a8
 refine s1 a8 4 (str (([48] : List UInt8) ++ (fnameS u0))) ?_; intro eN a9
 apply a4
 refine s_ (b_ (sqB a9 b [0] [] [(22, .bool u0.Fast)] ?_)); intro eO m
 refine c_ m z (fun _ c0 => ?_) fun _ A => ?_
 ·
  refine rgH ?_; intro c1 ba
  refine s1 m 25 (str (([48] : List UInt8) ++ (fnameS u0))) ?_; intro eP bb
  obtain ⟨c2, c3⟩ := c0
  refine sa bb c2 ?_; intro eQ bc
  refine s1 bc 4 (str ((([48] : List UInt8) ++ (fnameS u0)) ++ ([49, 48, 49, 48] : List UInt8))) ?_; intro eR bd
  apply ba
  refine j_ (t_ (sqH ?_)); intro c4 be
  refine bt bd b 2 [0] [] [(34, .slice ao1 u0.Data.length cap2)] ?_; intro eT bf
  obtain ⟨c5, c6⟩ := c3
  refine fc bf b (bof_fun u0.Data c5 ao1 cap2 _ _ hs3 b.fz) ?_; intro eU eV bg n
  refine bt bg n 5 [] [] [(5, str (bofS u0.Data).1)] ?_; intro eW bh
  apply be
  refine sqH ?_; intro c7 bi
  refine bt bh n 3 [] [] [(38, str ((([48] : List UInt8) ++ (fnameS u0)) ++ ([49, 48, 49, 48] : List UInt8))), (40, y6 (wu64 u0.Size))] ?_; intro eX bj
  obtain ⟨c8, c9⟩ := c6
  refine fc bj n (bwrite_fun (wu64 u0.Size) 4 c8 _ _ n.fz) ?_; intro eY eZ bk da
  obtain ⟨db, dc⟩ := c9
  refine sa bk db ?_; intro e0 bl
  refine s1 bl 43 (str (bofS u0.Data).1) ?_; intro e1 bm
  obtain ⟨dd, de⟩ := dc
  refine sa bm dd ?_; intro e2 bn
  refine s1 bn 2 (str ((((([48] : List UInt8) ++ (fnameS u0)) ++ ([49, 48, 49, 48] : List UInt8)) ++ (bwriteS (wu64 u0.Size) 4)) ++ (bofS u0.Data).1)) ?_; intro e3 df
  apply bi
  exact r_ (ra1 df (str ((((([48] : List UInt8) ++ (fnameS u0)) ++ ([49, 48, 49, 48] : List UInt8)) ++ (bwriteS (wu64 u0.Size) 4)) ++ (bofS u0.Data).1)) ⟨(((([48] : List UInt8) ++ (fnameS u0)) ++ ([49, 48, 49, 48] : List UInt8)) ++ (bwriteS (wu64 u0.Size) 4)) ++ (bofS u0.Data).1, rfl, de, da.below⟩)
 refine sqB m b [0] [] [(27, .bool u0.Long)] ?_; intro e4 o
 refine c_ o A (fun _ dg => ?_) fun _ dx => ?_
 ·
  refine rgH ?_; intro dh bo
  refine s1 o 30 (str (([48] : List UInt8) ++ (fnameS u0))) ?_; intro e5 bp
  obtain ⟨di, dj⟩ := dg
  refine sa bp di ?_; intro e6 bq
  refine s1 bq 4 (str ((([48] : List UInt8) ++ (fnameS u0)) ++ ([48, 48] : List UInt8))) ?_; intro e7 br
  apply bo
  refine j_ (t_ (sqH ?_)); intro dk bs
  refine bt br b 2 [0] [] [(34, .slice ao1 u0.Data.length cap2)] ?_; intro e8 bu
  obtain ⟨dl, dm⟩ := dj
  refine fc bu b (bof_fun u0.Data dl ao1 cap2 _ _ hs3 b.fz) ?_; intro e9 fa bv p
  refine bt bv p 5 [] [] [(5, str (bofS u0.Data).1)] ?_; intro fb bw
  apply bs
  refine sqH ?_; intro dn bx
  refine bt bw p 3 [] [] [(38, str ((([48] : List UInt8) ++ (fnameS u0)) ++ ([48, 48] : List UInt8))), (40, y6 (wu64 u0.Size))] ?_; intro fd bz
  obtain ⟨dp, dq⟩ := dm
  refine fc bz p (bwrite_fun (wu64 u0.Size) 4 dp _ _ p.fz) ?_; intro fe ff bA dr
  obtain ⟨ds, dt⟩ := dq
  refine sa bA ds ?_; intro fg bB
  refine s1 bB 43 (str (bofS u0.Data).1) ?_; intro fh bC
  obtain ⟨du, dv⟩ := dt
  refine sa bC du ?_; intro fi bD
  refine s1 bD 2 (str ((((([48] : List UInt8) ++ (fnameS u0)) ++ ([48, 48] : List UInt8)) ++ (bwriteS (wu64 u0.Size) 4)) ++ (bofS u0.Data).1)) ?_; intro fj dw
  apply bx
  exact r_ (ra1 dw (str ((((([48] : List UInt8) ++ (fnameS u0)) ++ ([48, 48] : List UInt8)) ++ (bwriteS (wu64 u0.Size) 4)) ++ (bofS u0.Data).1)) ⟨(((([48] : List UInt8) ++ (fnameS u0)) ++ ([48, 48] : List UInt8)) ++ (bwriteS (wu64 u0.Size) 4)) ++ (bofS u0.Data).1, rfl, dv, dr.below⟩)
 refine rgH ?_; intro dy bE
 refine s1 o 20 (str (([48] : List UInt8) ++ (fnameS u0))) ?_; intro fk bF
 obtain ⟨dz, dA⟩ := dx
 refine sa bF dz ?_; intro fl bG
 refine s1 bG 4 (str ((([48] : List UInt8) ++ (fnameS u0)) ++ ([48] : List UInt8))) ?_; intro fm bH
 apply bE
 refine j_ (t_ (sqH ?_)); intro dB bI
 refine bt bH b 2 [0] [] [(34, .slice ao1 u0.Data.length cap2)] ?_; intro fn bJ
 obtain ⟨dC, dD⟩ := dA
 refine fc bJ b (bof_fun u0.Data dC ao1 cap2 _ _ hs3 b.fz) ?_; intro fo fp bK q
 refine bt bK q 5 [] [] [(5, str (bofS u0.Data).1)] ?_; intro fq bL
 apply bI
 refine sqH ?_; intro dE bM
 refine bt bL q 3 [] [] [(38, str ((([48] : List UInt8) ++ (fnameS u0)) ++ ([48] : List UInt8))), (40, y6 (wu64 u0.Size))] ?_; intro fr bN
 obtain ⟨dF, dG⟩ := dD
 refine fc bN q (bwrite_fun (wu64 u0.Size) 4 dF _ _ q.fz) ?_; intro fs ft bO dH
 obtain ⟨dI, dJ⟩ := dG
 refine sa bO dI ?_; intro fu bP
 refine s1 bP 43 (str (bofS u0.Data).1) ?_; intro fv bQ
 obtain ⟨dK, dL⟩ := dJ
 refine sa bQ dK ?_; intro fw bR
 refine s1 bR 2 (str ((((([48] : List UInt8) ++ (fnameS u0)) ++ ([48] : List UInt8)) ++ (bwriteS (wu64 u0.Size) 4)) ++ (bofS u0.Data).1)) ?_; intro fx dM
 apply bM
 exact r_ (ra1 dM (str ((((([48] : List UInt8) ++ (fnameS u0)) ++ ([48] : List UInt8)) ++ (bwriteS (wu64 u0.Size) 4)) ++ (bofS u0.Data).1)) ⟨(((([48] : List UInt8) ++ (fnameS u0)) ++ ([48] : List UInt8)) ++ (bwriteS (wu64 u0.Size) 4)) ++ (bofS u0.Data).1, rfl, dL, dH.below⟩)
theorem rSame_walk (u0 : Frame) (u1 : Frame) (ao1 : Option Addr) (cap2 : Nat) (ao4 : Option Addr) (cap5 : Nat) (Z : Fz) (w : World) (hs3 : SlR t8 Z ao1 cap2 u0.Data) (hs6 : SlR t8 Z ao4 cap5 u1.Data) (hZ : Z.on w) {K : Bool → Prop} (hp : rSame_vc u0 u1 K) : Calls Tryz.prog 10 #[.agg #[i6 u0.ID, .bool u0.Long, .bool u0.Fast, .bool u0.Remote, i6 u0.Size, .slice ao1 u0.Data.length cap2], .agg #[i6 u1.ID, .bool u1.Long, .bool u1.Fast, .bool u1.Remote, i6 u1.Size, .slice ao4 u1.Data.length cap5]] w fun e w' => ∃ r : Bool, e = .returned (.bool r) ∧ K r ∧ Below w.heap.size w w' := by
 refine enter0 Tryz.func10 rfl rfl (by kernel_rfl) ?_; intro a0 z; have A := Mem.start w Z hZ
 have ao := hp (hs3.small) (hs6.small)
 refine sqH ?_; intro ap C
 refine nw z A pb (e24C u0 ao1 cap2) 24 ?_; intro c aw ax D E
 refine nw D E pb (e24C u1 ao4 cap5) 24 ?_; intro d ay az F a
 refine s1 F 4 (.bool false) ?_; intro aA G
 apply C
 refine sqH ?_; intro aq H
 refine s1 G 5 (pt c 0) ?_; intro aB I
 refine l1 I a 6 1 0 (i6 u0.ID) rfl rfl ?_; intro aC J
 refine s1 J 7 (pt d 0) ?_; intro aD L
 refine l1 L a 8 0 0 (i6 u1.ID) rfl rfl ?_; intro aE M
 refine s1 M 9 (.bool (u0.ID == u1.ID)) ?_; intro aF N
 refine s1 N 10 (.bool (u0.ID == u1.ID)) ?_; intro aG O
 have P := O.atom ((u0.ID == u1.ID) == true) (by kernel_rfl)
 refine gp P 11 0 [] (u0.ID == u1.ID) (pt c 1) rfl rfl ?_; intro aH f
 refine gd f (.bool u0.Long) (m := 0) (cj := []) (bj := u0.ID == u1.ID) rfl rfl (by kernel_rfl) rfl (by kernel_rfl) (by kernel_rfl) (by kernel_rfl) (fun hg => ld f a 1 (g := [0]) (b := c) (off := 1) (cs := (e24C u0 ao1 cap2)) (ty := 24) rfl (by kernel_rfl) (by kernel_rfl) (by kernel_rfl) (by kernel_rfl) hg) ?_; intro aI Q
 refine gp Q 13 0 [] (u0.ID == u1.ID) (pt d 1) rfl rfl ?_; intro aJ h
 refine gd h (.bool u1.Long) (m := 0) (cj := []) (bj := u0.ID == u1.ID) rfl rfl (by kernel_rfl) rfl (by kernel_rfl) (by kernel_rfl) (by kernel_rfl) (fun hg => ld h a 0 (g := [0]) (b := d) (off := 1) (cs := (e24C u1 ao4 cap5)) (ty := 24) rfl (by kernel_rfl) (by kernel_rfl) (by kernel_rfl) (by kernel_rfl) hg) ?_; intro aK R
 refine gp R 15 0 [] (u0.ID == u1.ID) (.bool (u0.Long == u1.Long)) rfl rfl ?_; intro aL i
 refine u_ i (.bool ((u0.ID == u1.ID) && (u0.Long == u1.Long))) (pk_and i (g := []) (m := 0) (b := u0.ID == u1.ID) (v := u0.Long == u1.Long) rfl (by kernel_rfl) (by kernel_rfl) (by kernel_rfl) rfl) ?_; intro aM S
 refine s1 S 17 (.bool ((u0.ID == u1.ID) && (u0.Long == u1.Long))) ?_; intro aN T
 have U := T.atom (((u0.ID == u1.ID) && (u0.Long == u1.Long)) == true) (by kernel_rfl)
 refine gp U 18 1 [] ((u0.ID == u1.ID) && (u0.Long == u1.Long)) (pt c 2) rfl rfl ?_; intro aO j
 refine gd j (.bool u0.Fast) (m := 1) (cj := []) (bj := (u0.ID == u1.ID) && (u0.Long == u1.Long)) rfl rfl (by kernel_rfl) rfl (by kernel_rfl) (by kernel_rfl) (by kernel_rfl) (fun hg => ld j a 1 (g := [1]) (b := c) (off := 2) (cs := (e24C u0 ao1 cap2)) (ty := 24) rfl (by kernel_rfl) (by kernel_rfl) (by kernel_rfl) (by kernel_rfl) hg) ?_; intro aP V
 refine gp V 20 1 [] ((u0.ID == u1.ID) && (u0.Long == u1.Long)) (pt d 2) rfl rfl ?_; intro aQ k
 refine gd k (.bool u1.Fast) (m := 1) (cj := []) (bj := (u0.ID == u1.ID) && (u0.Long == u1.Long)) rfl rfl (by kernel_rfl) rfl (by kernel_rfl) (by kernel_rfl) (by kernel_rfl) (fun hg => ld k a 0 (g := [1]) (b := d) (off := 2) (cs := (e24C u1 ao4 cap5)) (ty := 24) rfl (by kernel_rfl) (by kernel_rfl) (by kernel_rfl) (by kernel_rfl) hg) ?_; intro aR W
 refine gp W 22 1 [] ((u0.ID == u1.ID) && (u0.Long == u1.Long)) (.bool (u0.Fast == u1.Fast)) rfl rfl ?_; intro aS l
 refine u_ l (.bool (((u0.ID == u1.ID) && (u0.Long == u1.Long)) && (u0.Fast == u1.Fast))) (pk_and l (g := []) (m := 1) (b := (u0.ID == u1.ID) && (u0.Long == u1.Long)) (v := u0.Fast == u1.Fast) rfl (by kernel_rfl) (by kernel_rfl) (by kernel_rfl) rfl) ?_; intro aT X
 refine s1 X 24 (.bool (((u0.ID == u1.ID) && (u0.Long == u1.Long)) && (u0.Fast == u1.Fast))) ?_; intro aU Y
 have aa := Y.atom ((((u0.ID == u1.ID) && (u0.Long == u1.Long)) && (u0.Fast == u1.Fast)) == true) (by kernel_rfl)
 refine gp aa 25 2 [] (((u0.ID == u1.ID) && (u0.Long == u1.Long)) && (u0.Fast == u1.Fast)) (pt c 3) rfl rfl ?_; intro aV n
 refine gd n (.bool u0.Remote) (m := 2) (cj := []) (bj := ((u0.ID == u1.ID) && (u0.Long == u1.Long)) && (u0.Fast == u1.Fast)) rfl rfl (by kernel_rfl) rfl (by kernel_rfl) (by kernel_rfl) (by kernel_rfl) (fun hg => ld n a 1 (g := [2]) (b := c) (off := 3) (cs := (e24C u0 ao1 cap2)) (ty := 24) rfl (by kernel_rfl) (by kernel_rfl) (by kernel_rfl) (by kernel_rfl) hg) ?_; intro aW ab
 refine gp ab 27 2 [] (((u0.ID == u1.ID) && (u0.Long == u1.Long)) && (u0.Fast == u1.Fast)) (pt d 3) rfl rfl ?_; intro aX o
 refine gd o (.bool u1.Remote) (m := 2) (cj := []) (bj := ((u0.ID == u1.ID) && (u0.Long == u1.Long)) && (u0.Fast == u1.Fast)) rfl rfl (by kernel_rfl) rfl (by kernel_rfl) (by kernel_rfl) (by kernel_rfl) (fun hg => ld o a 0 (g := [2]) (b := d) (off := 3) (cs := (e24C u1 ao4 cap5)) (ty := 24) rfl (by kernel_rfl) (by kernel_rfl) (by kernel_rfl) (by kernel_rfl) hg) ?_; intro aY ac
 refine gp ac 29 2 [] (((u0.ID == u1.ID) && (u0.Long == u1.Long)) && (u0.Fast == u1.Fast)) (.bool (u0.Remote == u1.Remote)) rfl rfl ?_; intro aZ p
 refine u_ p (.bool ((((u0.ID == u1.ID) && (u0.Long == u1.Long)) && (u0.Fast == u1.Fast)) && (u0.Remote == u1.Remote))) (pk_and p (g := []) (m := 2) (b := ((u0.ID == u1.ID) && (u0.Long == u1.Long)) && (u0.Fast == u1.Fast)) (v := u0.Remote == u1.Remote) rfl (by kernel_rfl) (by kernel_rfl) (by kernel_rfl) rfl) ?_; intro a1 ad
 refine s1 ad 31 (.bool ((((u0.ID == u1.ID) && (u0.Long == u1.Long)) && (u0.Fast == u1.Fast)) && (u0.Remote == u1.Remote))) ?_; intro a2 ae
 have af := ae.atom (((((u0.ID == u1.ID) && (u0.Long == u1.Long)) && (u0.Fast == u1.Fast)) && (u0.Remote == u1.Remote)) == true) (by kernel_rfl)
 refine gp af 32 3 [] ((((u0.ID == u1.ID) && (u0.Long == u1.Long)) && (u0.Fast == u1.Fast)) && (u0.Remote == u1.Remote)) (pt c 4) rfl rfl ?_; intro a3 q
 refine gd q (i6 u0.Size) (m := 3) (cj := []) (bj := (((u0.ID == u1.ID) && (u0.Long == u1.Long)) && (u0.Fast == u1.Fast)) && (u0.Remote == u1.Remote)) rfl rfl (by kernel_rfl) rfl (by kernel_rfl) (by kernel_rfl) (by kernel_rfl) (fun hg => ld q a 1 (g := [3]) (b := c) (off := 4) (cs := (e24C u0 ao1 cap2)) (ty := 24) rfl (by kernel_rfl) (by kernel_rfl) (by kernel_rfl) (by kernel_rfl) hg) ?_; intro a4 ag
 refine gp ag 34 3 [] ((((u0.ID == u1.ID) && (u0.Long == u1.Long)) && (u0.Fast == u1.Fast)) && (u0.Remote == u1.Remote)) (pt d 4) rfl rfl ?_; intro a5 s
 refine gd s (i6 u1.Size) (m := 3) (cj := []) (bj := (((u0.ID == u1.ID) && (u0.Long == u1.Long)) && (u0.Fast == u1.Fast)) && (u0.Remote == u1.Remote)) rfl rfl (by kernel_rfl) rfl (by kernel_rfl) (by kernel_rfl) (by kernel_rfl) (fun hg => ld s a 0 (g := [3]) (b := d) (off := 4) (cs := (e24C u1 ao4 cap5)) (ty := 24) rfl (by kernel_rfl) (by kernel_rfl) (by kernel_rfl) (by kernel_rfl) hg) ?_; intro a6 ah
 refine gp ah 36 3 [] ((((u0.ID == u1.ID) && (u0.Long == u1.Long)) && (u0.Fast == u1.Fast)) && (u0.Remote == u1.Remote)) (.bool (u0.Size == u1.Size)) rfl rfl ?_; intro a7 t
 refine u_ t (.bool (((((u0.ID == u1.ID) && (u0.Long == u1.Long)) && (u0.Fast == u1.Fast)) && (u0.Remote == u1.Remote)) && (u0.Size == u1.Size))) (pk_and t (g := []) (m := 3) (b := (((u0.ID == u1.ID) && (u0.Long == u1.Long)) && (u0.Fast == u1.Fast)) && (u0.Remote == u1.Remote)) (v := u0.Size == u1.Size) rfl (by kernel_rfl) (by kernel_rfl) (by kernel_rfl) rfl) ?_; intro a8 ai
 refine s1 ai 38 (.bool (((((u0.ID == u1.ID) && (u0.Long == u1.Long)) && (u0.Fast == u1.Fast)) && (u0.Remote == u1.Remote)) && (u0.Size == u1.Size))) ?_; intro a9 aj
 have ak := aj.atom ((((((u0.ID == u1.ID) && (u0.Long == u1.Long)) && (u0.Fast == u1.Fast)) && (u0.Remote == u1.Remote)) && (u0.Size == u1.Size)) == true) (by kernel_rfl)
 refine gp ak 39 4 [] (((((u0.ID == u1.ID) && (u0.Long == u1.Long)) && (u0.Fast == u1.Fast)) && (u0.Remote == u1.Remote)) && (u0.Size == u1.Size)) (pt c 5) rfl rfl ?_; intro ba u
 refine gd u (.slice ao1 u0.Data.length cap2) (m := 4) (cj := []) (bj := ((((u0.ID == u1.ID) && (u0.Long == u1.Long)) && (u0.Fast == u1.Fast)) && (u0.Remote == u1.Remote)) && (u0.Size == u1.Size)) rfl rfl (by kernel_rfl) rfl (by kernel_rfl) (by kernel_rfl) (by kernel_rfl) (fun hg => ld u a 1 (g := [4]) (b := c) (off := 5) (cs := (e24C u0 ao1 cap2)) (ty := 24) rfl (by kernel_rfl) (by kernel_rfl) (by kernel_rfl) (by kernel_rfl) hg) ?_; intro bb al
 refine gp al 41 4 [] (((((u0.ID == u1.ID) && (u0.Long == u1.Long)) && (u0.Fast == u1.Fast)) && (u0.Remote == u1.Remote)) && (u0.Size == u1.Size)) (pt d 5) rfl rfl ?_; intro bc x
 refine gd x (.slice ao4 u1.Data.length cap5) (m := 4) (cj := []) (bj := ((((u0.ID == u1.ID) && (u0.Long == u1.Long)) && (u0.Fast == u1.Fast)) && (u0.Remote == u1.Remote)) && (u0.Size == u1.Size)) rfl rfl (by kernel_rfl) rfl (by kernel_rfl) (by kernel_rfl) (by kernel_rfl) (fun hg => ld x a 0 (g := [4]) (b := d) (off := 5) (cs := (e24C u1 ao4 cap5)) (ty := 24) rfl (by kernel_rfl) (by kernel_rfl) (by kernel_rfl) (by kernel_rfl) hg) ?_; intro bd am
 refine gcl am a (.bool (beqS u0.Data u1.Data)) 38 #[.slice ao1 u0.Data.length cap2, .slice ao4 u1.Data.length cap5] (m := 4) (cj := []) (bj := ((((u0.ID == u1.ID) && (u0.Long == u1.Long)) && (u0.Fast == u1.Fast)) && (u0.Remote == u1.Remote)) && (u0.Size == u1.Size)) rfl rfl (by kernel_rfl) rfl (by kernel_rfl) (by kernel_rfl) (by kernel_rfl) (fun _ => by kernel_rfl) (fun hg => beq_fun u0.Data u1.Data ao1 cap2 ao4 cap5 _ _ hs3 hs6 a.fz) ?_; intro be bf y ar
 refine u_ y (.bool ((((((u0.ID == u1.ID) && (u0.Long == u1.Long)) && (u0.Fast == u1.Fast)) && (u0.Remote == u1.Remote)) && (u0.Size == u1.Size)) && (beqS u0.Data u1.Data))) (pk_and y (g := []) (m := 4) (b := ((((u0.ID == u1.ID) && (u0.Long == u1.Long)) && (u0.Fast == u1.Fast)) && (u0.Remote == u1.Remote)) && (u0.Size == u1.Size)) (v := (beqS u0.Data u1.Data)) rfl (by kernel_rfl) (by kernel_rfl) (by kernel_rfl) rfl) ?_; intro bg an
 refine s1 an 4 (.bool ((((((u0.ID == u1.ID) && (u0.Long == u1.Long)) && (u0.Fast == u1.Fast)) && (u0.Remote == u1.Remote)) && (u0.Size == u1.Size)) && (beqS u0.Data u1.Data))) ?_; intro bh au
 apply H
 exact r_ (ra1 au (.bool ((((((u0.ID == u1.ID) && (u0.Long == u1.Long)) && (u0.Fast == u1.Fast)) && (u0.Remote == u1.Remote)) && (u0.Size == u1.Size)) && (beqS u0.Data u1.Data))) ⟨(((((u0.ID == u1.ID) && (u0.Long == u1.Long)) && (u0.Fast == u1.Fast)) && (u0.Remote == u1.Remote)) && (u0.Size == u1.Size)) && (beqS u0.Data u1.Data), rfl, ao, ar.below⟩)
theorem rfail_walk (u0 : FReader) (u1 : Int) (b1 : Nat) (ao2 : Option Addr) (cap3 : Nat) (B : Nat) (w0 : World) (Z0 : Fz) (Rr : List Res) (Z : Fz) (w : World) (hs4 : SlR t8 Z ao2 cap3 u0.f.Data) (hM0 : Mem B [] w0 Z0 ((.row b1 [str u0.Reader.Row, i6 u0.Reader.At, i6 u0.Reader.Code, y8 u0.Reader.c.last, i6 u0.Reader.c.n, i6 u0.f.ID, .bool u0.f.Long, .bool u0.f.Fast, .bool u0.f.Remote, i6 u0.f.Size, .slice ao2 u0.f.Data.length cap3] 46) :: Rr) Z w) (hZ : Z.on w) {K : FReader → Prop} (hp : rfail_vc u0 u1 K) : Calls Tryz.prog 19 #[pt b1 0, i6 u1] w fun e w' => ∃ (r : FReader) (ao1001 : Option Addr) (cap1002 : Nat) (Z' : Fz), e = .returned (.tuple #[]) ∧ K r ∧ Fz.le Z Z' ∧ SlR t8 Z' ao1001 cap1002 r.f.Data ∧ Mem B [] w0 Z0 ((.row b1 [str r.Reader.Row, i6 r.Reader.At, i6 r.Reader.Code, y8 r.Reader.c.last, i6 r.Reader.c.n, i6 r.f.ID, .bool r.f.Long, .bool r.f.Fast, .bool r.f.Remote, i6 r.f.Size, .slice ao1001 r.f.Data.length cap1002] 46) :: Rr) Z' w' := by
 refine enter0 Tryz.func19 rfl rfl (by kernel_rfl) ?_; intro s h; have i := Fz.le.refl Z
 have b := hp (hs4.small)
 refine sqB h hM0 [0] [] [(9, .bool (u0.Reader.Code == 0))] ?_; intro u a
 refine c_ a b (fun _ l => ?_) fun _ q => ?_
 ·
  refine rgH ?_; intro m j
  refine bt a hM0 5 [] [] [(11, i6 u1), (14, pt b1 2)] ?_; intro x g
  refine sx g hM0 0 [str u0.Reader.Row, i6 u0.Reader.At, i6 u1, y8 u0.Reader.c.last, i6 u0.Reader.c.n, i6 u0.f.ID, .bool u0.f.Long, .bool u0.f.Fast, .bool u0.f.Remote, i6 u0.f.Size, .slice ao2 u0.f.Data.length cap3] 2 ?_; intro o k
  have p : Mem B [] w0 Z0 ((.row b1 [str u0.Reader.Row, i6 u0.Reader.At, i6 u1, y8 u0.Reader.c.last, i6 u0.Reader.c.n, i6 u0.f.ID, .bool u0.f.Long, .bool u0.f.Fast, .bool u0.f.Remote, i6 u0.f.Size, .slice ao2 u0.f.Data.length cap3] 46) :: Rr) Z o := k
  apply j
  refine rN (fn := Tryz.f19) (v := .tuple #[]) g (re0 g (fn := Tryz.f19) rfl) ?_
  exact ⟨(⟨(⟨u0.Reader.Row, u0.Reader.At, u1, u0.Reader.c⟩ : Reader), u0.f⟩ : FReader), ao2, cap3, Z, rfl, l, i, hs4, p.kp⟩
 refine l_ (rN (fn := Tryz.f19) (v := .tuple #[]) a (re0 a (fn := Tryz.f19) rfl) ?_)
 exact ⟨u0, ao2, cap3, Z, rfl, q, i, hs4, hM0.kp⟩
end Go.Proofs.YtmnlahbngbigdaaGreatDoor
set_option linter.unusedVariables false
set_option linter.unusedSimpArgs false
set_option linter.defProp false
set_option maxRecDepth 100000
set_option maxHeartbeats 0
namespace Go.Proofs.YtmnlahbngbigdaaGreatDoor
open Go.Sy Go.RowKit
abbrev e46D (X : FReader) (A0 : Option Addr) (C0 : Nat) : List Value := [str X.Reader.Row, i6 X.Reader.At, i6 X.Reader.Code, y8 X.Reader.c.last, i6 X.Reader.c.n, i6 X.f.ID, .bool X.f.Long, .bool X.f.Fast, .bool X.f.Remote, i6 X.f.Size, .slice A0 X.f.Data.length C0]
def rfail_fun (u0 : FReader) (u1 : Int) (b1 : Nat) (ao2 : Option Addr) (cap3 : Nat) (B : Nat) (w0 : World) (Z0 : Fz) (Rr : List Res) (Z : Fz) (w : World) (hs4 : SlR t8 Z ao2 cap3 u0.f.Data) (hM0 : Mem B [] w0 Z0 ((.row b1 [str u0.Reader.Row, i6 u0.Reader.At, i6 u0.Reader.Code, y8 u0.Reader.c.last, i6 u0.Reader.c.n, i6 u0.f.ID, .bool u0.f.Long, .bool u0.f.Fast, .bool u0.f.Remote, i6 u0.f.Size, .slice ao2 u0.f.Data.length cap3] 46) :: Rr) Z w) (hZ : Z.on w) := fc_ (rfail_walk u0 u1 b1 ao2 cap3 B w0 Z0 Rr Z w hs4 hM0 hZ (rfail_ok u0 u1))
theorem rfail_funK (u0 : FReader) (u1 : Int) (b1 : Nat) (ao2 : Option Addr) (cap3 : Nat) (B : Nat) (w0 : World) (Z0 : Fz) (Rr : List Res) (Z : Fz) (w : World) (hs4 : SlR t8 Z ao2 cap3 u0.f.Data) (hM0 : Mem B [] w0 Z0 ((.row b1 [str u0.Reader.Row, i6 u0.Reader.At, i6 u0.Reader.Code, y8 u0.Reader.c.last, i6 u0.Reader.c.n, i6 u0.f.ID, .bool u0.f.Long, .bool u0.f.Fast, .bool u0.f.Remote, i6 u0.f.Size, .slice ao2 u0.f.Data.length cap3] 46) :: Rr) Z w) (hZ : Z.on w) : Calls Tryz.prog 19 #[pt b1 0, i6 u1] w fun e w' => ∃ (ao1001 : Option Addr) (cap1002 : Nat) (Z' : Fz), e = .returned (.tuple #[]) ∧ Fz.le Z Z' ∧ SlR t8 Z' ao1001 cap1002 u0.f.Data ∧ Mem B [] w0 Z0 ((.row b1 [str (rfailS u0 u1).Reader.Row, i6 (rfailS u0 u1).Reader.At, i6 (rfailS u0 u1).Reader.Code, y8 (rfailS u0 u1).Reader.c.last, i6 (rfailS u0 u1).Reader.c.n, i6 u0.f.ID, .bool u0.f.Long, .bool u0.f.Fast, .bool u0.f.Remote, i6 u0.f.Size, .slice ao1001 u0.f.Data.length cap1002] 46) :: Rr) Z' w' :=
 (rfail_walk u0 u1 b1 ao2 cap3 B w0 Z0 Rr Z w hs4 hM0 hZ (rfail_ok u0 u1)).mono fun _ _ ⟨r, h0, h1, h2, he, hk, f0, f1, hm⟩ => by subst hk; have hkp : (rfailS u0 u1).f = u0.f := rfailS_f u0 u1; (try simp only [hkp] at *); exact ⟨h0, h1, h2, he, f0, f1, hm⟩
theorem rwant_walk (u0 : FReader) (u1 : List UInt8) (b1 : Nat) (ao2 : Option Addr) (cap3 : Nat) (B : Nat) (w0 : World) (Z0 : Fz) (Rr : List Res) (Z : Fz) (w : World) (hs4 : SlR t8 Z ao2 cap3 u0.f.Data) (hM0 : Mem B [] w0 Z0 ((.row b1 [str u0.Reader.Row, i6 u0.Reader.At, i6 u0.Reader.Code, y8 u0.Reader.c.last, i6 u0.Reader.c.n, i6 u0.f.ID, .bool u0.f.Long, .bool u0.f.Fast, .bool u0.f.Remote, i6 u0.f.Size, .slice ao2 u0.f.Data.length cap3] 46) :: Rr) Z w) (hZ : Z.on w) {K : FReader → Prop} (hp : rwant_vc u0 u1 K) : Calls Tryz.prog 45 #[pt b1 0, str u1] w fun e w' => ∃ (r : FReader) (ao1001 : Option Addr) (cap1002 : Nat) (Z' : Fz), e = .returned (.tuple #[]) ∧ K r ∧ Fz.le Z Z' ∧ SlR t8 Z' ao1001 cap1002 r.f.Data ∧ Mem B [] w0 Z0 ((.row b1 [str r.Reader.Row, i6 r.Reader.At, i6 r.Reader.Code, y8 r.Reader.c.last, i6 r.Reader.c.n, i6 r.f.ID, .bool r.f.Long, .bool r.f.Fast, .bool r.f.Remote, i6 r.f.Size, .slice ao1001 r.f.Data.length cap1002] 46) :: Rr) Z' w' := by
 refine enter0 Tryz.func45 rfl rfl (by kernel_rfl) ?_; intro a0 q; have g := Fz.le.refl Z
 have Q := hp (hs4.small)
 refine sqH ?_; intro R s
 refine bt q hM0 3 [] [] [(7, pt b1 0)] ?_; intro ac u
 obtain ⟨S, x⟩ := Q
 refine ck u 21 #[pt b1 0, i6 1] ?_
 obtain ⟨a, T, y⟩ := hxq x
 have d := rtakeF_fun u0 1 S b1 ao2 cap3 _ _ _ _ _ _ hs4 hM0 hM0.fz; rw [T] at d; refine d.mono ?_; rintro _ U ⟨l, m, z, rfl, A, h, hm⟩; refine ⟨_, rfl, ?_⟩; intro ad C; have D := hm
 replace g := Fz.le.trans g A
 have i : Mem B [] w0 Z0 ((.row b1 (e46D a.2 l m) 46) :: Rr) z U := D
 have k := y (h.small)
 refine s1 C 4 (str a.1) ?_; intro ae E
 apply s
 refine sqB E i [0] [40] [(19, .bool ((a.2.Reader.Code == 0) && (a.1 != u1)))] ?_; intro af j
 refine cd j (t := (a.2.Reader.Code == 0) && (a.1 != u1)) (by kernel_rfl) (fun o => ?_) (fun o => ?_)
 · -- yes
  have F := k.1 o
  refine rgH ?_; intro V G
  refine s1 j 20 (pt b1 0) ?_; intro ag H
  refine ck H 19 #[pt b1 0, i6 4] ?_
  obtain ⟨b, W, I⟩ := hxq F
  have d := rfail_fun a.2 4 b1 l m _ _ _ _ _ _ h i i.fz; rw [W] at d; refine d.mono ?_; rintro _ X ⟨J, L, M, rfl, p, N, hm⟩; refine ⟨_, rfl, ?_⟩; intro ah O; have P := hm
  replace g := Fz.le.trans g p
  have Y : Mem B [] w0 Z0 ((.row b1 (e46D b J L) 46) :: Rr) M X := P
  have aa := I (N.small)
  apply G
  refine rN (fn := Tryz.f45) (v := .tuple #[]) O (re0 O (fn := Tryz.f45) rfl) ?_
  exact ⟨b, J, L, M, rfl, aa, g, N, Y.kp⟩
 · -- no
  have ab := k.2 o
  refine l_ (rN (fn := Tryz.f45) (v := .tuple #[]) j (re0 j (fn := Tryz.f45) rfl) ?_)
  exact ⟨a.2, l, m, z, rfl, ab, g, h, i.kp⟩
theorem rnumber_walk (u0 : FReader) (u1 : Int) (b1 : Nat) (ao2 : Option Addr) (cap3 : Nat) (B : Nat) (w0 : World) (Z0 : Fz) (Rr : List Res) (Z : Fz) (w : World) (hs4 : SlR t8 Z ao2 cap3 u0.f.Data) (hM0 : Mem B [] w0 Z0 ((.row b1 [str u0.Reader.Row, i6 u0.Reader.At, i6 u0.Reader.Code, y8 u0.Reader.c.last, i6 u0.Reader.c.n, i6 u0.f.ID, .bool u0.f.Long, .bool u0.f.Fast, .bool u0.f.Remote, i6 u0.f.Size, .slice ao2 u0.f.Data.length cap3] 46) :: Rr) Z w) (hZ : Z.on w) {K : (Int × FReader) → Prop} (hp : rnumber_vc u0 u1 K) : Calls Tryz.prog 18 #[pt b1 0, i6 u1] w fun e w' => ∃ (r : Int × FReader) (ao1001 : Option Addr) (cap1002 : Nat) (Z' : Fz), e = .returned (i6 r.1) ∧ K r ∧ Fz.le Z Z' ∧ SlR t8 Z' ao1001 cap1002 r.2.f.Data ∧ Mem B [] w0 Z0 ((.row b1 [str r.2.Reader.Row, i6 r.2.Reader.At, i6 r.2.Reader.Code, y8 r.2.Reader.c.last, i6 r.2.Reader.c.n, i6 r.2.f.ID, .bool r.2.f.Long, .bool r.2.f.Fast, .bool r.2.f.Remote, i6 r.2.f.Size, .slice ao1001 r.2.f.Data.length cap1002] 46) :: Rr) Z' w' := by
 refine enter0 Tryz.func18 rfl rfl (by kernel_rfl) ?_; intro U p; have g := Fz.le.refl Z
 have H := hp (hs4.small)
 refine sqB p hM0 [] [] [] ?_; intro V q
 refine sqH ?_; intro I s
 refine bt q hM0 4 [] [] [(8, pt b1 0), (9, i6 u1)] ?_; intro W u
 obtain ⟨J, v⟩ := H
 refine ck u 21 #[pt b1 0, i6 u1] ?_
 obtain ⟨a, L, x⟩ := hxq v
 have i := rtakeF_fun u0 u1 J b1 ao2 cap3 _ _ _ _ _ _ hs4 hM0 hM0.fz; rw [L] at i; refine i.mono ?_; rintro _ M ⟨j, k, l, rfl, y, m, hm⟩; refine ⟨_, rfl, ?_⟩; intro X z; have A := hm
 replace g := Fz.le.trans g y
 have b : Mem B [] w0 Z0 ((.row b1 (e46D a.2 j k) 46) :: Rr) l M := A
 have h := x (m.small)
 refine s1 z 5 (str a.1) ?_; intro Y C
 apply s
 refine s_ (sqB C b [0] [] [(16, .bool (a.2.Reader.Code != 0))] ?_); intro aa d
 refine cd d (t := a.2.Reader.Code != 0) (by kernel_rfl) (fun o => ?_) (fun o => ?_)
 · -- yes
  have N := h.1 o
  refine sqB d b [] [] [(4, i6 0)] ?_; intro ab O
  exact r_ (h_ (ra1 O (i6 0) ⟨(0, a.2), j, k, l, rfl, N, g, m, b.kp⟩))
 · -- no
  have P := h.2 o
  refine k_ (sqH ?_); intro Q D
  refine s1 d 17 (str a.1) ?_; intro ac E
  obtain ⟨R, S⟩ := P
  refine fc E b (bread_fun a.1 R _ _ b.fz) ?_; intro ad ae F G
  refine bt F G 2 [] [] [(4, i6 (w64 (breadS a.1)))] ?_; intro af T
  apply D
  exact r_ (ra1 T (i6 (w64 (breadS a.1))) ⟨(w64 (breadS a.1), a.2), j, k, l, rfl, S, g, m, G.kp⟩)
end Go.Proofs.YtmnlahbngbigdaaGreatDoor
set_option linter.unusedVariables false
set_option linter.unusedSimpArgs false
set_option linter.defProp false
namespace Go.Proofs.YtmnlahbngbigdaaGreatDoor
open Go.Sy Go.RowKit
def rwant_fun (u0 : FReader) (u1 : List UInt8) (hpre : Rok u0.Reader) (b1 : Nat) (ao2 : Option Addr) (cap3 : Nat) (B : Nat) (w0 : World) (Z0 : Fz) (Rr : List Res) (Z : Fz) (w : World) (hs4 : SlR t8 Z ao2 cap3 u0.f.Data) (hM0 : Mem B [] w0 Z0 ((.row b1 [str u0.Reader.Row, i6 u0.Reader.At, i6 u0.Reader.Code, y8 u0.Reader.c.last, i6 u0.Reader.c.n, i6 u0.f.ID, .bool u0.f.Long, .bool u0.f.Fast, .bool u0.f.Remote, i6 u0.f.Size, .slice ao2 u0.f.Data.length cap3] 46) :: Rr) Z w) (hZ : Z.on w) := fc_ (rwant_walk u0 u1 b1 ao2 cap3 B w0 Z0 Rr Z w hs4 hM0 hZ (rwant_ok u0 u1 hpre))
theorem rwant_funK (u0 : FReader) (u1 : List UInt8) (hpre : Rok u0.Reader) (b1 : Nat) (ao2 : Option Addr) (cap3 : Nat) (B : Nat) (w0 : World) (Z0 : Fz) (Rr : List Res) (Z : Fz) (w : World) (hs4 : SlR t8 Z ao2 cap3 u0.f.Data) (hM0 : Mem B [] w0 Z0 ((.row b1 [str u0.Reader.Row, i6 u0.Reader.At, i6 u0.Reader.Code, y8 u0.Reader.c.last, i6 u0.Reader.c.n, i6 u0.f.ID, .bool u0.f.Long, .bool u0.f.Fast, .bool u0.f.Remote, i6 u0.f.Size, .slice ao2 u0.f.Data.length cap3] 46) :: Rr) Z w) (hZ : Z.on w) : Calls Tryz.prog 45 #[pt b1 0, str u1] w fun e w' => ∃ (ao1001 : Option Addr) (cap1002 : Nat) (Z' : Fz), e = .returned (.tuple #[]) ∧ Fz.le Z Z' ∧ SlR t8 Z' ao1001 cap1002 u0.f.Data ∧ Mem B [] w0 Z0 ((.row b1 [str (rwantS u0 u1).Reader.Row, i6 (rwantS u0 u1).Reader.At, i6 (rwantS u0 u1).Reader.Code, y8 (rwantS u0 u1).Reader.c.last, i6 (rwantS u0 u1).Reader.c.n, i6 u0.f.ID, .bool u0.f.Long, .bool u0.f.Fast, .bool u0.f.Remote, i6 u0.f.Size, .slice ao1001 u0.f.Data.length cap1002] 46) :: Rr) Z' w' :=
 (rwant_walk u0 u1 b1 ao2 cap3 B w0 Z0 Rr Z w hs4 hM0 hZ (rwant_ok u0 u1 hpre)).mono fun _ _ ⟨r, h0, h1, h2, he, hk, f0, f1, hm⟩ => by subst hk; have hkp : (rwantS u0 u1).f = u0.f := rwantS_f u0 u1; (try simp only [hkp] at *); exact ⟨h0, h1, h2, he, f0, f1, hm⟩
def rnumber_fun (u0 : FReader) (u1 : Int) (hpre : Rok u0.Reader ∧ 0 ≤ u1 ∧ u1 ≤ 62) (b1 : Nat) (ao2 : Option Addr) (cap3 : Nat) (B : Nat) (w0 : World) (Z0 : Fz) (Rr : List Res) (Z : Fz) (w : World) (hs4 : SlR t8 Z ao2 cap3 u0.f.Data) (hM0 : Mem B [] w0 Z0 ((.row b1 [str u0.Reader.Row, i6 u0.Reader.At, i6 u0.Reader.Code, y8 u0.Reader.c.last, i6 u0.Reader.c.n, i6 u0.f.ID, .bool u0.f.Long, .bool u0.f.Fast, .bool u0.f.Remote, i6 u0.f.Size, .slice ao2 u0.f.Data.length cap3] 46) :: Rr) Z w) (hZ : Z.on w) := fc_ (rnumber_walk u0 u1 b1 ao2 cap3 B w0 Z0 Rr Z w hs4 hM0 hZ (rnumber_ok u0 u1 hpre))
theorem rnumber_funK (u0 : FReader) (u1 : Int) (hpre : Rok u0.Reader ∧ 0 ≤ u1 ∧ u1 ≤ 62) (b1 : Nat) (ao2 : Option Addr) (cap3 : Nat) (B : Nat) (w0 : World) (Z0 : Fz) (Rr : List Res) (Z : Fz) (w : World) (hs4 : SlR t8 Z ao2 cap3 u0.f.Data) (hM0 : Mem B [] w0 Z0 ((.row b1 [str u0.Reader.Row, i6 u0.Reader.At, i6 u0.Reader.Code, y8 u0.Reader.c.last, i6 u0.Reader.c.n, i6 u0.f.ID, .bool u0.f.Long, .bool u0.f.Fast, .bool u0.f.Remote, i6 u0.f.Size, .slice ao2 u0.f.Data.length cap3] 46) :: Rr) Z w) (hZ : Z.on w) : Calls Tryz.prog 18 #[pt b1 0, i6 u1] w fun e w' => ∃ (ao1001 : Option Addr) (cap1002 : Nat) (Z' : Fz), e = .returned (i6 (rnumberS u0 u1).1) ∧ Fz.le Z Z' ∧ SlR t8 Z' ao1001 cap1002 u0.f.Data ∧ Mem B [] w0 Z0 ((.row b1 [str (rnumberS u0 u1).2.Reader.Row, i6 (rnumberS u0 u1).2.Reader.At, i6 (rnumberS u0 u1).2.Reader.Code, y8 (rnumberS u0 u1).2.Reader.c.last, i6 (rnumberS u0 u1).2.Reader.c.n, i6 u0.f.ID, .bool u0.f.Long, .bool u0.f.Fast, .bool u0.f.Remote, i6 u0.f.Size, .slice ao1001 u0.f.Data.length cap1002] 46) :: Rr) Z' w' :=
 (rnumber_walk u0 u1 b1 ao2 cap3 B w0 Z0 Rr Z w hs4 hM0 hZ (rnumber_ok u0 u1 hpre)).mono fun _ _ ⟨r, h0, h1, h2, he, hk, f0, f1, hm⟩ => by subst hk; have hkp : (rnumberS u0 u1).2.f = u0.f := rnumberS_f u0 u1; (try simp only [hkp] at *); exact ⟨h0, h1, h2, he, f0, f1, hm⟩
def fhead_fun (u0 : Frame) (hpre : fheadpre u0) (ao1 : Option Addr) (cap2 : Nat) (Z : Fz) (w : World) (hs3 : SlR t8 Z ao1 cap2 u0.Data) (hZ : Z.on w) := f_ (fhead_walk u0 ao1 cap2 Z w hs3 hZ (fhead_ok u0 hpre))
end Go.Proofs.YtmnlahbngbigdaaGreatDoor
set_option linter.unusedVariables false
set_option linter.unusedSimpArgs false
set_option maxRecDepth 100000
set_option maxHeartbeats 0
namespace Go.Proofs.YtmnlahbngbigdaaGreatDoor
open Go.Sy Go.RowKit
abbrev e24EfBits (X : Frame) (A0 : Option Addr) (C0 : Nat) : List Value := [i6 X.ID, .bool X.Long, .bool X.Fast, .bool X.Remote, i6 X.Size, .slice A0 X.Data.length C0]
theorem fBits_walk (u0 : Frame) (ao1 : Option Addr) (cap2 : Nat) (Z : Fz) (w : World) (hs3 : SlR t8 Z ao1 cap2 u0.Data) (hZ : Z.on w) {K : ((List UInt8) × Int) → Prop} (hp : fBits_vc u0 K) : Calls Tryz.prog 28 #[.agg #[i6 u0.ID, .bool u0.Long, .bool u0.Fast, .bool u0.Remote, i6 u0.Size, .slice ao1 u0.Data.length cap2]] w fun e w' => ∃ r : (List UInt8) × Int, e = .returned (.tuple #[str r.1, i6 r.2]) ∧ K r ∧ Below w.heap.size w w' := by
 refine enter0 Tryz.func28 rfl rfl (by kernel_rfl) ?_; intro a0 v; have x := Mem.start w Z hZ
 have k := hp (hs3.small)
 refine sqH ?_; intro aB y
 refine nw v x pb (e24EfBits u0 ao1 cap2) 24 ?_; intro b6 a7 bf z f
 refine bt z f 2 [] [] [] ?_; intro bg A
 apply y
 refine s_ (sqH ?_); intro aC B
 refine l2 A f 17 0 0 6 (e24EfBits u0 ao1 cap2) rfl rfl ?_; intro bh C
 refine fc C f (fcheckfr_fun u0 ao1 cap2 _ _ hs3 f.fz) ?_; intro bi bj D b
 refine s1 D 4 (i6 (fcheckfr u0)) ?_; intro bk E
 apply B
 refine sqB E b [] [] [(20, .bool ((fcheckfr u0) != 0))] ?_; intro bl g
 refine cd g (t := (fcheckfr u0) != 0) (by kernel_rfl) (fun p => ?_) (fun p => ?_)
 · -- yes
  have aD := k.1 p
  refine sqB g b [] [] [(2, str []), (3, i6 (fcheckfr u0))] ?_; intro bm aE
  exact r_ (h_ (ra2 aE (.tuple #[str [], i6 (fcheckfr u0)]) ⟨([], (fcheckfr u0)), rfl, aD, b.below⟩))
 · -- no
  have aF := k.2 p
  refine k_ (sqH ?_); intro aG F
  refine l2 g b 22 0 0 6 (e24EfBits u0 ao1 cap2) rfl rfl ?_; intro bn G
  obtain ⟨aH, l⟩ := aF
  refine fc G b (fhead_fun u0 aH ao1 cap2 _ _ hs3 b.fz) ?_; intro bo bp H c
  refine s1 H 5 (str (fheadS u0)) ?_; intro bq I
  apply F
  refine s_ (sqB I c [0] [] [(26, .bool (!u0.Fast))] ?_); intro br h
  refine cd h (t := !u0.Fast) (by kernel_rfl) (fun s => ?_) (fun s => ?_)
  · -- yes
   have aI := l.1 s
   refine sqH ?_; intro aJ J
   refine s1 h 28 (str (fheadS u0)) ?_; intro bs L
   refine fc L c (csum_fun 0 (fheadS u0) _ _ c.fz) ?_; intro bu bv M i
   refine bt M i 5 [] [] [(6, str (csumS 0 (fheadS u0)).1)] ?_; intro bw N
   apply J
   refine sqH ?_; intro aK O
   refine bt N i 2 [] [] [(33, str (fheadS u0)), (34, str (csumS 0 (fheadS u0)).1)] ?_; intro bx P
   obtain ⟨aL, aM⟩ := aI
   refine sa P aL ?_; intro bz Q
   refine fc Q i (sput_fun ((fheadS u0) ++ (csumS 0 (fheadS u0)).1) _ _ i.fz) ?_; intro bA bB R u
   refine bt R u 5 [] [] [(8, str (sputS ((fheadS u0) ++ (csumS 0 (fheadS u0)).1)).1)] ?_; intro bC S
   apply O
   refine sqH ?_; intro aN T
   refine s1 S 39 (str (sputS ((fheadS u0) ++ (csumS 0 (fheadS u0)).1)).1) ?_; intro bD U
   obtain ⟨aO, aP⟩ := aM
   refine sa U aO ?_; intro bE V
   refine bt V u 2 [] [] [(2, str ((sputS ((fheadS u0) ++ (csumS 0 (fheadS u0)).1)).1 ++ ([49, 49, 49, 49, 49, 49, 49, 49, 49, 49] : List UInt8))), (3, i6 0)] ?_; intro bF aQ
   apply T
   exact r_ (h_ (ra2 aQ (.tuple #[str ((sputS ((fheadS u0) ++ (csumS 0 (fheadS u0)).1)).1 ++ ([49, 49, 49, 49, 49, 49, 49, 49, 49, 49] : List UInt8)), i6 0]) ⟨((sputS ((fheadS u0) ++ (csumS 0 (fheadS u0)).1)).1 ++ ([49, 49, 49, 49, 49, 49, 49, 49, 49, 49] : List UInt8), 0), rfl, aP, u.below⟩))
  · -- no
   have aR := l.2 s
   refine k_ (sqH ?_); intro aS W
   refine s1 h 42 (str (fheadS u0)) ?_; intro bG X
   refine fc X c (sput_fun (fheadS u0) _ _ c.fz) ?_; intro bH bI Y j
   refine bt Y j 5 [] [] [(10, str (sputS (fheadS u0)).1)] ?_; intro bJ aa
   apply W
   refine sqH ?_; intro aT ab
   refine bt aa j 5 [] [] [(50, i6 (w64 (((sputS (fheadS u0)).1.length : Int) - ((fheadS u0).length : Int))))] ?_; intro bK ac
   obtain ⟨aU, aV⟩ := aR
   refine fc ac j (fcount_fun (w64 (((sputS (fheadS u0)).1.length : Int) - ((fheadS u0).length : Int))) aU _ _ j.fz) ?_; intro bL bM ad m
   refine s1 ad 12 (str (fcountS (w64 (((sputS (fheadS u0)).1.length : Int) - ((fheadS u0).length : Int))))) ?_; intro bN ae
   apply ab
   refine sqH ?_; intro aW af
   refine l2 ae m 53 0 0 6 (e24EfBits u0 ao1 cap2) rfl rfl ?_; intro bO ag
   refine fc ag m (fkind_fun u0 ao1 cap2 _ _ hs3 m.fz) ?_; intro bP bQ ah n
   refine bt ah n 2 [] [] [(55, str (sputS (fheadS u0)).1), (56, str (fcountS (w64 (((sputS (fheadS u0)).1.length : Int) - ((fheadS u0).length : Int)))))] ?_; intro bR ai
   obtain ⟨aX, aY⟩ := aV
   refine sa ai aX ?_; intro bS aj
   refine fc aj n (csum_fun (fkind u0) ((sputS (fheadS u0)).1 ++ (fcountS (w64 (((sputS (fheadS u0)).1.length : Int) - ((fheadS u0).length : Int))))) _ _ n.fz) ?_; intro bT bU ak d
   refine bt ak d 5 [] [] [(13, str (csumS (fkind u0) ((sputS (fheadS u0)).1 ++ (fcountS (w64 (((sputS (fheadS u0)).1.length : Int) - ((fheadS u0).length : Int)))))).1)] ?_; intro bV al
   apply af
   refine sqH ?_; intro aZ am
   refine bt al d 2 [] [] [(62, str (fcountS (w64 (((sputS (fheadS u0)).1.length : Int) - ((fheadS u0).length : Int))))), (63, str (csumS (fkind u0) ((sputS (fheadS u0)).1 ++ (fcountS (w64 (((sputS (fheadS u0)).1.length : Int) - ((fheadS u0).length : Int)))))).1)] ?_; intro bW an
   obtain ⟨a1, a2⟩ := aY
   refine sa an a1 ?_; intro bX ao
   refine bt ao d 4 [] [] [(65, str (sputS (fheadS u0)).1), (68, i6 (w64 (((sputS (fheadS u0)).1.length : Int) - 1)))] ?_; intro bY ap
   obtain ⟨a3, a4⟩ := a2
   obtain ⟨a, aq⟩ : ∃ q, (sputS (fheadS u0)).1[(w64 (((sputS (fheadS u0)).1.length : Int) - 1)).toNat]? = some q := ⟨_, List.getElem?_eq_getElem (by omega)⟩; have a5 := a4 a aq
   refine si ap .i64 a3.1 aq ?_; intro bZ ar
   refine fc ar d (sfixed_fun ((fcountS (w64 (((sputS (fheadS u0)).1.length : Int) - ((fheadS u0).length : Int)))) ++ (csumS (fkind u0) ((sputS (fheadS u0)).1 ++ (fcountS (w64 (((sputS (fheadS u0)).1.length : Int) - ((fheadS u0).length : Int)))))).1) (a.toNat : Int) _ _ d.fz) ?_; intro b0 b1 au o
   refine bt au o 5 [] [] [(15, str (sfixedS ((fcountS (w64 (((sputS (fheadS u0)).1.length : Int) - ((fheadS u0).length : Int)))) ++ (csumS (fkind u0) ((sputS (fheadS u0)).1 ++ (fcountS (w64 (((sputS (fheadS u0)).1.length : Int) - ((fheadS u0).length : Int)))))).1) (a.toNat : Int)).1)] ?_; intro a6 av
   apply am
   have aw : Fr 77 [] [⟨10, [], str (sputS (fheadS u0)).1⟩, ⟨15, [], str (sfixedS ((fcountS (w64 (((sputS (fheadS u0)).1.length : Int) - ((fheadS u0).length : Int)))) ++ (csumS (fkind u0) ((sputS (fheadS u0)).1 ++ (fcountS (w64 (((sputS (fheadS u0)).1.length : Int) - ((fheadS u0).length : Int)))))).1) (a.toNat : Int)).1⟩] a6 := av.reg
   refine sqH ?_; intro a8 ax
   refine bt aw o 2 [] [] [(73, str (sputS (fheadS u0)).1), (74, str (sfixedS ((fcountS (w64 (((sputS (fheadS u0)).1.length : Int) - ((fheadS u0).length : Int)))) ++ (csumS (fkind u0) ((sputS (fheadS u0)).1 ++ (fcountS (w64 (((sputS (fheadS u0)).1.length : Int) - ((fheadS u0).length : Int)))))).1) (a.toNat : Int)).1)] ?_; intro b2 ay
   obtain ⟨a9, ba⟩ := a5
   refine sa ay a9 ?_; intro b3 az
   obtain ⟨bb, bc⟩ := ba
   refine sa az bb ?_; intro b4 aA
   refine bt aA o 2 [] [] [(2, str (((sputS (fheadS u0)).1 ++ (sfixedS ((fcountS (w64 (((sputS (fheadS u0)).1.length : Int) - ((fheadS u0).length : Int)))) ++ (csumS (fkind u0) ((sputS (fheadS u0)).1 ++ (fcountS (w64 (((sputS (fheadS u0)).1.length : Int) - ((fheadS u0).length : Int)))))).1) (a.toNat : Int)).1) ++ ([49, 49, 49, 49, 49, 49, 49, 49, 49, 49] : List UInt8))), (3, i6 0)] ?_; intro b5 bd
   apply ax
   exact r_ (ra2 bd (.tuple #[str (((sputS (fheadS u0)).1 ++ (sfixedS ((fcountS (w64 (((sputS (fheadS u0)).1.length : Int) - ((fheadS u0).length : Int)))) ++ (csumS (fkind u0) ((sputS (fheadS u0)).1 ++ (fcountS (w64 (((sputS (fheadS u0)).1.length : Int) - ((fheadS u0).length : Int)))))).1) (a.toNat : Int)).1) ++ ([49, 49, 49, 49, 49, 49, 49, 49, 49, 49] : List UInt8)), i6 0]) ⟨(((sputS (fheadS u0)).1 ++ (sfixedS ((fcountS (w64 (((sputS (fheadS u0)).1.length : Int) - ((fheadS u0).length : Int)))) ++ (csumS (fkind u0) ((sputS (fheadS u0)).1 ++ (fcountS (w64 (((sputS (fheadS u0)).1.length : Int) - ((fheadS u0).length : Int)))))).1) (a.toNat : Int)).1) ++ ([49, 49, 49, 49, 49, 49, 49, 49, 49, 49] : List UInt8), 0), rfl, bc, o.below⟩)
end Go.Proofs.YtmnlahbngbigdaaGreatDoor
set_option linter.unusedVariables false
set_option linter.unusedSimpArgs false
set_option linter.defProp false
namespace Go.Proofs.YtmnlahbngbigdaaGreatDoor
open Go.Sy Go.RowKit
def fBits_fun (u0 : Frame) (hpre : ∀ x ∈ u0.Data, 0 ≤ x ∧ x ≤ 255) (ao1 : Option Addr) (cap2 : Nat) (Z : Fz) (w : World) (hs3 : SlR t8 Z ao1 cap2 u0.Data) (hZ : Z.on w) := f_ (fBits_walk u0 ao1 cap2 Z w hs3 hZ (fBits_ok u0 hpre))
end Go.Proofs.YtmnlahbngbigdaaGreatDoor
set_option linter.unusedVariables false
set_option linter.unusedSimpArgs false
set_option maxRecDepth 100000
set_option maxHeartbeats 0
namespace Go.Proofs.YtmnlahbngbigdaaGreatDoor
open Go.Sy Go.RowKit
abbrev e24Wa (X : Frame) (A0 : Option Addr) (C0 : Nat) : List Value := [i6 X.ID, .bool X.Long, .bool X.Fast, .bool X.Remote, i6 X.Size, .slice A0 X.Data.length C0]
theorem wsend_walk (u0 : List Frame) (ao1 : Option Addr) (cap2 : Nat) (Z : Fz) (w : World) (hs3 : SlR tyFrame Z ao1 cap2 u0) (hZ : Z.on w) {K : ((List UInt8) × Int × (List Int) × Int) → Prop} (hp : wsend_vc u0 K) : Calls Tryz.prog 42 #[.slice ao1 u0.length cap2] w fun e w' => ∃ (r : (List UInt8) × Int × (List Int) × Int) (ao1001 : Option Addr) (cap1002 : Nat) (Z' : Fz), e = .returned (.tuple #[str r.1, i6 r.2.1, .slice ao1001 r.2.2.1.length cap1002, i6 r.2.2.2]) ∧ K r ∧ Mem w.heap.size [] w Z [.own t6 3 ao1001 cap1002 r.2.2.1] Z' w' := by
 refine enter0 Tryz.func42 rfl rfl (by kernel_rfl) ?_; intro a0 cf; have M := Mem.start w Z hZ
 have aR := hp (hs3.small)
 refine sqB cf M [] [] [(4, .slice none 0 0)] ?_; intro iu cg
 refine s_ (sqB cg M [] [] [(24, .bool (decide ((u0.length : Int) > 6)))] ?_); intro iv az
 refine c_ az aR (fun _ fk => ?_) fun _ aS => ?_
 ·
  refine sqB az M [] [] [(2, str []), (3, i6 0), (4, .slice none 0 0), (5, i6 2)] ?_; intro iw ch
  refine r_ (h_ ?_)
  have fl : Mem w.heap.size [] w Z [.own t6 3 none 0 ([] : List Int)] Z w := M.addNil t6 3 (by decide)
  refine rt (fn := Tryz.f42) (v := .tuple #[str [], i6 0, .slice none ([] : List Int).length 0, i6 2]) ch (re4 ch (fn := Tryz.f42) rfl (by kernel_rfl) (by kernel_rfl) (by kernel_rfl) (by kernel_rfl)) ?_
  exact ⟨([], 0, ([] : List Int), 2), none, 0, Z, rfl, fk, fl.kp⟩
 refine k_ (s_ (sqB az M [] [] [(27, .bool ((u0.length : Int) == 0))] ?_)); intro iy aA
 refine c_ aA aS (fun _ fm => ?_) fun _ fp => ?_
 ·
  refine sqB aA M [] [] [(2, str []), (3, i6 0), (4, .slice none 0 0), (5, i6 8)] ?_; intro iz ci
  refine r_ (h_ ?_)
  have fo : Mem w.heap.size [] w Z [.own t6 3 none 0 ([] : List Int)] Z w := M.addNil t6 3 (by decide)
  refine rt (fn := Tryz.f42) (v := .tuple #[str [], i6 0, .slice none ([] : List Int).length 0, i6 8]) ci (re4 ci (fn := Tryz.f42) rfl (by kernel_rfl) (by kernel_rfl) (by kernel_rfl) (by kernel_rfl)) ?_
  exact ⟨([], 0, ([] : List Int), 8), none, 0, Z, rfl, fm, fo.kp⟩
 refine k_ (sqB aA M [] [] [(6, .slice none 0 0)] ?_); intro iA cj
 refine sqB cj M [] [] [(7, i6 0)] ?_; intro iB ck
 refine s_ (sqB ck M [] [] [(28, .slice ao1 u0.length cap2), (29, i6 (u0.length : Int)), (30, i6 0)] ?_); intro cl cm
 apply b_
 have cn : Fr 149 [] [⟨4, [], .slice none 0 0⟩, ⟨6, [], .slice none 0 0⟩, ⟨7, [], i6 0⟩, ⟨28, [], .slice ao1 u0.length cap2⟩, ⟨29, [], i6 (u0.length : Int)⟩, ⟨30, [], i6 0⟩] cl := cm.reg
 have co : Mem w.heap.size [] w Z [.own tySender 111 none 0 ([] : List Sender)] Z w := M.addNil tySender 111 (by decide)
 have cp : Fr 149 [] [⟨4, [], .slice none 0 0⟩, ⟨6, [], .slice none ([] : List Sender).length 0⟩, ⟨7, [], i6 0⟩, ⟨28, [], .slice ao1 u0.length cap2⟩, ⟨29, [], i6 (u0.length : Int)⟩, ⟨30, [], i6 0⟩] cl := cn.reg
 obtain ⟨fq, fr, fs, ft⟩ := fp
 refine lp (ι := (List Sender) × Int × Int × (Option Addr) × Nat) (fun s => [⟨4, [], .slice none 0 0⟩, ⟨6, [], .slice s.2.2.2.1 s.1.length s.2.2.2.2⟩, ⟨7, [], i6 s.2.1⟩, ⟨28, [], .slice ao1 u0.length cap2⟩, ⟨29, [], i6 (u0.length : Int)⟩, ⟨30, [], i6 s.2.2.1⟩]) (fun s => [.own tySender 111 s.2.2.2.1 s.2.2.2.2 s.1]) (fun s => Z) (fun s => fq s.1 s.2.1 s.2.2.1) (fun s => fr s.1 s.2.1 s.2.2.1) ⟨([] : List Sender), 0, 0, none, 0⟩ fs (by exact cp.reg) (by exact co) ?_
 rintro ⟨N, z, ag, i, f⟩ fu fv fw cq cr
 have aT := ft N z ag fu
 refine sqB cq cr [] [] [(31, .bool (decide (ag < (u0.length : Int))))] ?_; intro iC aB
 refine s_ (c_ aB aT (fun _ fx => ?_) fun _ fQ => ?_)
 ·
  refine k_ (s_ (b_ (sqH ?_))); intro fy ct
  obtain ⟨fA, cu⟩ := fx
  refine ix_ aB hs3 ag fA .i64 24 48 ?_; intro iD iE iF l iG fB fC fD cv
  have cw := cu l fB
  obtain ⟨ah, ai, rfl, cx⟩ := fD
  have fE := cw (cx.small)
  refine z2 cv cr 33 fC 0 6 (e24Wa l ah ai) rfl ?_; intro iH cy
  refine nw cy cr pb [i6 0, .bool false, .bool false, .bool false, i6 0, .slice none 0 0] 24 ?_; intro bs iI iJ bu cz
  refine sx bu cz 0 (e24Wa l ah ai) 0 ?_; intro fF cA
  have aU : Mem w.heap.size [] w Z [.row bs (e24Wa l ah ai) 24, .own tySender 111 i f N] Z fF := cA
  apply ct
  refine sqH ?_; intro fG cB
  refine l2 bu aU 35 0 0 6 (e24Wa l ah ai) rfl rfl ?_; intro iK cC
  obtain ⟨fH, aV⟩ := fE
  refine fc cC aU (fBits_fun l fH ah ai _ _ cx aU.fz) ?_; intro iL fI cD aa
  refine bt cD aa 5 [] [] [(10, str (BitsS l).1), (11, i6 (BitsS l).2)] ?_; intro iM cE
  apply cB
  refine s_ (sqB cE aa [] [] [(40, .bool ((BitsS l).2 != 0))] ?_); intro iN aC
  refine c_ aC aV (fun _ fJ => ?_) fun _ fL => ?_
  ·
   refine sqB aC aa [] [] [(2, str []), (3, i6 0), (4, .slice none 0 0), (5, i6 (BitsS l).2)] ?_; intro iO cF
   refine r_ (h_ (i_ (h_ (h_ (i_ (h_ ?_))))))
   have fK : Mem w.heap.size [] w Z [.own t6 3 none 0 ([] : List Int), .row bs (e24Wa l ah ai) 24, .own tySender 111 i f N] Z fI := aa.addNil t6 3 (by decide)
   refine rt (fn := Tryz.f42) (v := .tuple #[str [], i6 0, .slice none ([] : List Int).length 0, i6 (BitsS l).2]) cF (re4 cF (fn := Tryz.f42) rfl (by kernel_rfl) (by kernel_rfl) (by kernel_rfl) (by kernel_rfl)) ?_
   exact ⟨([], 0, ([] : List Int), (BitsS l).2), none, 0, Z, rfl, fJ, fK.kp⟩
  refine k_ (sqH ?_); intro fM cG
  refine bt aC aa 3 [] [] [(42, .slice i N.length f), (44, .agg #[str (BitsS l).1, i6 (-1)])] ?_; intro iP cH
  refine nw cH aa (fun b => .slice (sm b) 1 1) [str (BitsS l).1, i6 (-1)] 111 ?_; intro cI iQ iR cJ bw
  obtain ⟨fN, cK⟩ := fL
  refine ap cJ bw 2 (T := tySender) (xs := N) (ys := [(⟨(BitsS l).1, -1⟩ : Sender)]) (ao := i) (cap := f) (ao2 := (sm cI)) (cap2 := 1) (t := 109) (e := 111) (bytes := 24) (nog rfl _) rfl (by kernel_rfl) rfl (by kernel_rfl) (by kernel_rfl) (by kernel_rfl) rfl (Src.row bw 0 rfl (RepAll.one (T := tySender) (x := (⟨(BitsS l).1, -1⟩ : Sender)) rfl)) fN ?_; intro bx bz iS fO iT cL cM
  have bA : Mem w.heap.size [] w Z [.row cI [str (BitsS l).1, i6 (-1)] 111, .row bs (e24Wa l ah ai) 24, .own tySender 111 bx bz (N ++ [(⟨(BitsS l).1, -1⟩ : Sender)])] Z fO := cM
  refine s1 cL 6 (.slice bx (N ++ [(⟨(BitsS l).1, -1⟩ : Sender)]).length bz) ?_; intro iU cN
  apply cG
  refine rgB cN bA [] [] [(7, i6 (max z ((BitsS l).1.length : Int)))] ?_; intro iV cO
  refine j_ (t_ (rgB cO bA [] [] [(30, i6 (w64 (ag + 1)))] ?_)); intro iW fP
  exact d_ ⟨⟨N ++ [(⟨(BitsS l).1, -1⟩ : Sender)], max z ((BitsS l).1.length : Int), w64 (ag + 1), bx, bz⟩, cK.1, cK.2, (fP.reg).anyβ _ (by kernel_rfl), bA.kp⟩
 refine x_ (y_ (y_ (z_ (t_ (sqH ?_))))); intro fR cP
 refine nw aB cr (fun b => .slice (sm b) 0 0) [] 5 ?_; intro aD iX fS cQ bB
 refine s1 cQ 12 (.slice (sm aD) 0 0) ?_; intro iY cR
 apply cP
 refine s_ (sqB cR bB [] [] [(53, i6 z), (54, i6 0)] ?_); intro cS cT
 apply b_
 have cU : Fr 149 [] [⟨4, [], .slice none 0 0⟩, ⟨6, [], .slice i N.length f⟩, ⟨12, [], .slice (sm aD) 0 0⟩, ⟨53, [], i6 z⟩, ⟨54, [], i6 0⟩] cS := cT.reg
 have cV : Mem w.heap.size [] w Z [.own t8 5 (sm aD) 0 ([] : List Int), .own tySender 111 i f N] Z fS := bB.rowOwn (T := t8) (xs := ([] : List Int)) 0 rfl (by decide) (by show 0 ≤ lim; decide) (RepAll.nil _ _)
 have cW : Fr 149 [] [⟨4, [], .slice none 0 0⟩, ⟨6, [], .slice i N.length f⟩, ⟨12, [], .slice (sm aD) ([] : List Int).length 0⟩, ⟨53, [], i6 z⟩, ⟨54, [], i6 0⟩] cS := cU.reg
 obtain ⟨fT, fU, fV, fW⟩ := fQ
 refine lp (ι := (List Int) × Int × (List Sender) × (Option Addr) × Nat) (fun s => [⟨4, [], .slice none 0 0⟩, ⟨6, [], .slice i s.2.2.1.length f⟩, ⟨12, [], .slice s.2.2.2.1 s.1.length s.2.2.2.2⟩, ⟨53, [], i6 z⟩, ⟨54, [], i6 s.2.1⟩]) (fun s => [.own t8 5 s.2.2.2.1 s.2.2.2.2 s.1, .own tySender 111 i f s.2.2.1]) (fun s => Z) (fun s => fT s.1 s.2.1 s.2.2.1) (fun s => fU s.1 s.2.1 s.2.2.1) ⟨([] : List Int), 0, N, (sm aD), 0⟩ fV (by exact cW.reg) (by exact cV) ?_
 rintro ⟨h, j, a, m, n⟩ fX fY cX cY cZ
 have aW := fW h j a fX
 refine sqB cY cZ [] [] [(55, .bool (decide (j < z)))] ?_; intro c1 aE
 refine s_ (c_ aE aW (fun _ fZ => ?_) fun _ hT => ?_)
 ·
  apply k_
  have c2 : Fr 149 [] [⟨4, [], .slice none 0 0⟩, ⟨6, [], .slice i a.length f⟩, ⟨12, [], .slice m h.length n⟩, ⟨53, [], i6 z⟩, ⟨54, [], i6 j⟩] c1 := aE.reg
  obtain ⟨f0, f1, f2⟩ := fZ
  refine wp_seq_k fun KJ232 hKJ233 => ?_
  have f3 : ∀ (ar : List Int) (au : List Sender) (aX : Option Addr) (aY : Nat), f0 ar au → ∀ a1 w1, Fr 149 [] [⟨4, [], .slice none 0 0⟩, ⟨6, [], .slice i au.length f⟩, ⟨12, [], .slice aX ar.length aY⟩, ⟨53, [], i6 z⟩, ⟨54, [], i6 j⟩] a1 → Mem w.heap.size [] w Z [.own t8 5 aX aY ar, .own tySender 111 i f au] Z w1 → KJ232 a1 w1 := by
   rintro ar au aX aY f4 iZ i0 c3 c4
   refine hKJ233 _ _ ?_
   have c5 := f2 ar au f4
   refine rgB c3 c4 [] [] [(54, i6 (w64 (j + 1)))] ?_; intro i1 f5
   exact d_ ⟨⟨ar, w64 (j + 1), au, aX, aY⟩, c5.1, c5.2, (f5.reg).anyβ _ (by kernel_rfl), c4.kp⟩
  refine b_ (sqB c2 cZ [] [] [(13, i6 j)] ?_); intro i2 c6
  refine sqB c6 cZ [] [] [(14, y8 49), (15, .bool false)] ?_; intro i3 c7
  refine s_ (sqB c7 cZ [] [] [(57, .slice i a.length f), (58, i6 (a.length : Int)), (59, i6 0)] ?_); intro c8 c9
  apply b_
  have da : Fr 149 [] [⟨4, [], .slice none 0 0⟩, ⟨6, [], .slice i a.length f⟩, ⟨12, [], .slice m h.length n⟩, ⟨13, [], i6 j⟩, ⟨14, [], y8 49⟩, ⟨15, [], .bool false⟩, ⟨53, [], i6 z⟩, ⟨54, [], i6 j⟩, ⟨57, [], .slice i a.length f⟩, ⟨58, [], i6 (a.length : Int)⟩, ⟨59, [], i6 0⟩] c8 := c9.reg
  obtain ⟨f6, f7, f8, f9⟩ := f1
  refine lp (ι := Int × Bool × Int) (fun s => [⟨4, [], .slice none 0 0⟩, ⟨6, [], .slice i a.length f⟩, ⟨12, [], .slice m h.length n⟩, ⟨13, [], i6 j⟩, ⟨14, [], y8 s.1⟩, ⟨15, [], .bool s.2.1⟩, ⟨53, [], i6 z⟩, ⟨54, [], i6 j⟩, ⟨57, [], .slice i a.length f⟩, ⟨58, [], i6 (a.length : Int)⟩, ⟨59, [], i6 s.2.2⟩]) (fun s => [.own t8 5 m n h, .own tySender 111 i f a]) (fun s => Z) (fun s => f6 s.1 s.2.1 s.2.2) (fun s => f7 s.1 s.2.1 s.2.2) ⟨49, false, 0⟩ f8 (by exact da.reg) (by exact cZ) ?_
  rintro ⟨o, aj, S⟩ ga gb dc dd de
  have aZ := f9 o aj S ga
  refine sqB dd de [] [] [(60, .bool (decide (S < (a.length : Int))))] ?_; intro dg aF
  refine s_ (c_ aF aZ (fun _ gc => ?_) fun _ a4 => ?_)
  ·
   apply k_
   have dh : Fr 149 [] [⟨4, [], .slice none 0 0⟩, ⟨6, [], .slice i a.length f⟩, ⟨12, [], .slice m h.length n⟩, ⟨13, [], i6 j⟩, ⟨14, [], y8 o⟩, ⟨15, [], .bool aj⟩, ⟨53, [], i6 z⟩, ⟨54, [], i6 j⟩, ⟨57, [], .slice i a.length f⟩, ⟨58, [], i6 (a.length : Int)⟩, ⟨59, [], i6 S⟩] dg := aF.reg
   obtain ⟨gd, ge, gf⟩ := gc
   refine wp_seq_k fun KJ287 hKJ288 => ?_
   have di : ∀ (aG : Int) (aH : Bool), gd aG aH → ∀ a1 w1, Fr 149 [] [⟨4, [], .slice none 0 0⟩, ⟨6, [], .slice i a.length f⟩, ⟨12, [], .slice m h.length n⟩, ⟨13, [], i6 j⟩, ⟨14, [], y8 aG⟩, ⟨15, [], .bool aH⟩, ⟨53, [], i6 z⟩, ⟨54, [], i6 j⟩, ⟨57, [], .slice i a.length f⟩, ⟨58, [], i6 (a.length : Int)⟩, ⟨59, [], i6 S⟩] a1 → Mem w.heap.size [] w Z [.own t8 5 m n h, .own tySender 111 i f a] Z w1 → KJ287 a1 w1 := by
    rintro aG aH gg i4 i5 dj dk
    refine hKJ288 _ _ ?_
    have dl := gf aG aH gg
    refine rgB dj dk [] [] [(59, i6 (w64 (S + 1)))] ?_; intro i7 gh
    exact d_ ⟨⟨aG, aH, w64 (S + 1)⟩, dl.1, dl.2, (gh.reg).anyβ _ (by kernel_rfl), dk.kp⟩
   refine b_ (sqH ?_); intro gi dm
   obtain ⟨gj, dn⟩ := ge
   refine ixo dh de 1 (T := tySender) (xs := a) S gj (k := .i64) (e := 111) (bytes := 24) (nog rfl _) rfl (by kernel_rfl) rfl (by kernel_rfl) (by kernel_rfl) rfl (by kernel_rfl) ?_; intro gk i8 gl dp
   subst gl
   obtain ⟨P, gm, a2⟩ := gxq dn (by first | omega | (simp only [List.length_set] at *; omega))
   obtain ⟨gn, go, gp⟩ := own_el de 1 (T := tySender) (xs := a) rfl S.toNat gm
   obtain rfl : gn = ([str P.row, i6 P.lost] : List Value) := go
   refine lc2 dp 62 2 [str P.row, i6 P.lost] gp rfl ?_; intro i9 dq
   refine nw dq de pb [str [], i6 0] 111 ?_; intro gq ja jb bG dr
   refine sx bG dr 0 [str P.row, i6 P.lost] 0 ?_; intro gr ds
   have aI : Mem w.heap.size [] w Z [.row gq [str P.row, i6 P.lost] 111, .own t8 5 m n h, .own tySender 111 (sm gk) f a] Z gr := ds
   apply dm
   refine sqB bG aI [0, 0] [] [(72, .bool ((decide (P.lost < 0)) && (decide (j < (P.row.length : Int)))))] ?_; intro jc a3
   refine c_ a3 a2 (fun _ gs => ?_) fun _ gy => ?_
   ·
    refine rgH ?_; intro gt dt
    refine bt a3 aI 4 [0] [] [(73, y8 o), (75, str P.row), (76, i6 j)] ?_; intro jd du
    obtain ⟨gu, gv⟩ := gs
    obtain ⟨bI, dv⟩ : ∃ q, P.row[j.toNat]? = some q := ⟨_, List.getElem?_eq_getElem (by omega)⟩; have gw := gv bI dv
    refine si du .i64 gu.1 dv ?_; intro je dw
    refine bt dw aI 3 [] [] [(14, y8 (min o (bI.toNat : Int))), (15, .bool true)] ?_; intro jf gx
    apply dt
    exact j_ (d_ (di (min o (bI.toNat : Int)) true gw _ _ ((gx.reg).anyβ _ (by kernel_rfl)) (aI.kp)))
   exact l_ (j_ (d_ (di o aj gy _ _ ((a3.reg).anyβ _ (by kernel_rfl)) (aI.kp))))
  refine x_ (y_ (y_ (z_ (t_ (s_ (sqB aF de [] [] [(81, .bool (!aj))] ?_)))))); intro jg aJ
  refine c_ aJ a4 (fun _ gz => ?_) fun _ g6 => ?_
  ·
   refine x_ (y_ (ibo (by decide) ?_))
   refine y_ (y_ (z_ (t_ (sqB aJ de [] [] [(3, i6 (-1))] ?_)))); intro jh dx
   refine s_ (sqB dx de [] [] [(124, .slice i a.length f), (125, i6 (a.length : Int)), (126, i6 0)] ?_); intro dy dz
   apply b_
   have dA : Fr 149 [] [⟨3, [], i6 (-1)⟩, ⟨4, [], .slice none 0 0⟩, ⟨12, [], .slice m h.length n⟩, ⟨124, [], .slice i a.length f⟩, ⟨125, [], i6 (a.length : Int)⟩, ⟨126, [], i6 0⟩] dy := dz.reg
   have dB : Mem w.heap.size [] w Z [.own t6 3 none 0 ([] : List Int), .own t8 5 m n h, .own tySender 111 i f a] Z dc := de.addNil t6 3 (by decide)
   have dC : Fr 149 [] [⟨3, [], i6 (-1)⟩, ⟨4, [], .slice none ([] : List Int).length 0⟩, ⟨12, [], .slice m h.length n⟩, ⟨124, [], .slice i a.length f⟩, ⟨125, [], i6 (a.length : Int)⟩, ⟨126, [], i6 0⟩] dy := dA.reg
   obtain ⟨gA, gB, gC, gD⟩ := gz
   refine lp (ι := Int × (List Int) × Int × (Option Addr) × Nat) (fun s => [⟨3, [], i6 s.1⟩, ⟨4, [], .slice s.2.2.2.1 s.2.1.length s.2.2.2.2⟩, ⟨12, [], .slice m h.length n⟩, ⟨124, [], .slice i a.length f⟩, ⟨125, [], i6 (a.length : Int)⟩, ⟨126, [], i6 s.2.2.1⟩]) (fun s => [.own t6 3 s.2.2.2.1 s.2.2.2.2 s.2.1, .own t8 5 m n h, .own tySender 111 i f a]) (fun s => Z) (fun s => gA s.1 s.2.1 s.2.2.1) (fun s => gB s.1 s.2.1 s.2.2.1) ⟨-1, ([] : List Int), 0, none, 0⟩ gC (by exact dC.reg) (by exact dB) ?_
   rintro ⟨G, A, p, D, E⟩ gE gF gG dD dE
   have a5 := gD G A p gE
   refine sqB dD dE [] [] [(127, .bool (decide (p < (a.length : Int))))] ?_; intro ji aK
   refine s_ (c_ aK a5 (fun _ gH => ?_) fun _ g3 => ?_)
   ·
    refine k_ (s_ (b_ (sqH ?_))); intro gI dG
    refine s1 aK 128 (i6 p) ?_; intro jj dH
    obtain ⟨gJ, dI⟩ := gH
    refine ixo dH dE 2 (T := tySender) (xs := a) p gJ (k := .i64) (e := 111) (bytes := 24) (nog rfl _) rfl (by kernel_rfl) rfl (by kernel_rfl) (by kernel_rfl) rfl (by kernel_rfl) ?_; intro ak jk gK dJ
    subst gK
    obtain ⟨B, gL, gM⟩ := gxq dI (by first | omega | (simp only [List.length_set] at *; omega))
    obtain ⟨gN, gO, gP⟩ := own_el dE 2 (T := tySender) (xs := a) rfl p.toNat gL
    obtain rfl : gN = ([str B.row, i6 B.lost] : List Value) := gO
    refine lc2 dJ 130 2 [str B.row, i6 B.lost] gP rfl ?_; intro jl dK
    refine nw dK dE pb [str [], i6 0] 111 ?_; intro al jm jn dL dM
    refine s1 dL 20 (i6 p) ?_; intro dN bL
    refine sx bL dM 0 [str B.row, i6 B.lost] 0 ?_; intro dO dP
    have X : Mem w.heap.size [] w Z [.row al [str B.row, i6 B.lost] 111, .own t6 3 D E A, .own t8 5 m n h, .own tySender 111 (sm ak) f a] Z dO := dP
    apply dG
    have dQ : Fr 149 [] [⟨3, [], i6 G⟩, ⟨4, [], .slice D A.length E⟩, ⟨12, [], .slice m h.length n⟩, ⟨20, [], i6 p⟩, ⟨21, [], pt al 0⟩, ⟨124, [], .slice (sm ak) a.length f⟩, ⟨125, [], i6 (a.length : Int)⟩, ⟨126, [], i6 p⟩] dN := bL.reg
    obtain ⟨gQ, a6, gR⟩ := gM
    refine wp_seq_k fun KJ441 hKJ442 => ?_
    have dR : ∀ (U : Int) (H : List Int) (V : Option Addr) (W : Nat), gQ U H → ∀ a1 w1, Fr 149 [] [⟨3, [], i6 U⟩, ⟨4, [], .slice V H.length W⟩, ⟨12, [], .slice m h.length n⟩, ⟨21, [], pt al 0⟩, ⟨124, [], .slice (sm ak) a.length f⟩, ⟨125, [], i6 (a.length : Int)⟩, ⟨126, [], i6 p⟩] a1 → Mem w.heap.size [] w Z [.row al [str B.row, i6 B.lost] 111, .own t6 3 V W H, .own t8 5 m n h, .own tySender 111 (sm ak) f a] Z w1 → KJ441 a1 w1 := by
     rintro U H V W gS jo jp dS bN
     refine hKJ442 _ _ ?_
     have gT := gR U H gS
     refine rgH ?_; intro gU dT
     refine bt dS bN 3 [0] [] [(139, .slice V H.length W), (141, i6 B.lost)] ?_; intro jq dU
     refine nw dU bN (fun b => .slice (sm b) 1 1) [i6 B.lost] 3 ?_; intro dV jr js dW bO
     obtain ⟨gV, dX⟩ := gT
     refine ap dW bO 2 (T := t6) (xs := H) (ys := [B.lost]) (ao := V) (cap := W) (ao2 := (sm dV)) (cap2 := 1) (t := 33) (e := 3) (bytes := 8) (nog rfl _) rfl (by kernel_rfl) rfl (by kernel_rfl) (by kernel_rfl) (by kernel_rfl) rfl (Src.row bO 0 rfl (RepAll.one (T := t6) (x := B.lost) rfl)) gV ?_; intro bP bQ jt gW ju dY dZ
     have d0 : Mem w.heap.size [] w Z [.row dV [i6 B.lost] 3, .row al [str B.row, i6 B.lost] 111, .own t6 3 bP bQ (H ++ [B.lost]), .own t8 5 m n h, .own tySender 111 (sm ak) f a] Z gW := dZ
     refine s1 dY 4 (.slice bP (H ++ [B.lost]).length bQ) ?_; intro jv d1
     apply dT
     refine j_ (t_ (rgB d1 d0 [] [] [(126, i6 (w64 (p + 1)))] ?_)); intro jw gX
     exact d_ ⟨⟨U, H ++ [B.lost], w64 (p + 1), bP, bQ⟩, dX.1, dX.2, (gX.reg).anyβ _ (by kernel_rfl), d0.kp⟩
    refine b_ (sqB dQ X [0] [] [(132, .bool (decide (B.lost ≥ 0)))] ?_); intro jx a7
    refine c_ a7 a6 (fun _ gY => ?_) fun _ a8 => ?_
    ·
     exact l_ (j_ (d_ (dR G A D E gY _ _ ((a7.reg).anyβ _ (by kernel_rfl)) (X.kp))))
    refine sqB a7 X [] [] [(136, .bool (decide (G ≥ 0)))] ?_; intro jy aL
    refine c_ aL a8 (fun _ gZ => ?_) fun _ g1 => ?_
    ·
     refine sqB aL X [] [] [(2, str []), (3, i6 0), (4, .slice none 0 0), (5, i6 9)] ?_; intro jz d2
     refine r_ (i_ (h_ (i_ (h_ (h_ (i_ (h_ ?_)))))))
     have g0 : Mem w.heap.size [] w Z [.own t6 3 none 0 ([] : List Int), .row al [str B.row, i6 B.lost] 111, .own t6 3 D E A, .own t8 5 m n h, .own tySender 111 (sm ak) f a] Z dO := X.addNil t6 3 (by decide)
     refine rt (fn := Tryz.f42) (v := .tuple #[str [], i6 0, .slice none ([] : List Int).length 0, i6 9]) d2 (re4 d2 (fn := Tryz.f42) rfl (by kernel_rfl) (by kernel_rfl) (by kernel_rfl) (by kernel_rfl)) ?_
     exact ⟨([], 0, ([] : List Int), 9), none, 0, Z, rfl, gZ, g0.kp⟩
    refine rgB aL X [] [] [(3, i6 p)] ?_; intro jA g2
    exact j_ (d_ (dR p A D E g1 _ _ ((g2.reg).anyβ _ (by kernel_rfl)) (X.kp)))
   refine x_ (y_ (y_ (z_ (t_ (sqH ?_))))); intro g4 d3
   refine s1 aK 145 (.slice m h.length n) ?_; intro jB bT
   refine u_ bT (str (bstr h)) ((by obtain ⟨Z9, g5, bU, bV⟩ := dE.lend 1 rfl; exact bstr_op bT (g := []) (e := 5) (ao := m) (cap := n) (xs := h) rfl (by kernel_rfl) (by kernel_rfl) (by kernel_rfl) (by kernel_rfl)  bV bU rfl)) ?_; intro jC d4
   refine bt d4 dE 6 [] [] [(2, str (bstr h)), (3, i6 G), (4, .slice D A.length E), (5, i6 0)] ?_; intro jD d5
   apply d3
   refine r_ (rt (fn := Tryz.f42) (v := .tuple #[str (bstr h), i6 G, .slice D A.length E, i6 0]) d5 (re4 d5 (fn := Tryz.f42) rfl (by kernel_rfl) (by kernel_rfl) (by kernel_rfl) (by kernel_rfl)) ?_)
   exact ⟨(bstr h, G, A, 0), D, E, Z, rfl, g3, dE.kp⟩
  refine k_ (sqH ?_); intro g7 d6
  refine bt aJ de 2 [] [] [(82, .slice m h.length n), (83, y8 o)] ?_; intro jE d7
  refine nw d7 de (fun b => .slice (sm b) 1 1) [y8 o] 5 ?_; intro av jF jG d8 bW
  obtain ⟨g8, g9⟩ := g6
  refine ap d8 bW 1 (T := t8) (xs := h) (ys := [o]) (ao := m) (cap := n) (ao2 := (sm av)) (cap2 := 1) (t := 22) (e := 5) (bytes := 1) (nog rfl _) rfl (by kernel_rfl) rfl (by kernel_rfl) (by kernel_rfl) (by kernel_rfl) rfl (Src.row bW 0 rfl (RepAll.one (T := t8) (x := o) rfl)) g8 ?_; intro J L jH ha jI d9 ea
  have bX : Mem w.heap.size [] w Z [.row av [y8 o] 5, .own t8 5 J L (h ++ [o]), .own tySender 111 i f a] Z ha := ea
  refine s1 d9 12 (.slice J (h ++ [o]).length L) ?_; intro jJ eb
  apply d6
  refine sqB eb bX [] [] [(87, i6 (a.length : Int)), (88, i6 0)] ?_; intro ec ed
  apply b_
  have ee : Fr 149 [] [⟨4, [], .slice none 0 0⟩, ⟨6, [], .slice i a.length f⟩, ⟨12, [], .slice J (h ++ [o]).length L⟩, ⟨13, [], i6 j⟩, ⟨14, [], y8 o⟩, ⟨53, [], i6 z⟩, ⟨54, [], i6 j⟩, ⟨87, [], i6 (a.length : Int)⟩, ⟨88, [], i6 0⟩] ec := ed.reg
  obtain ⟨hb, hc, hd, he⟩ := g9
  refine lp (ι := Int × (List Sender)) (fun s => [⟨4, [], .slice none 0 0⟩, ⟨6, [], .slice i s.2.length f⟩, ⟨12, [], .slice J (h ++ [o]).length L⟩, ⟨13, [], i6 j⟩, ⟨14, [], y8 o⟩, ⟨53, [], i6 z⟩, ⟨54, [], i6 j⟩, ⟨87, [], i6 (a.length : Int)⟩, ⟨88, [], i6 s.1⟩]) (fun s => [.row av [y8 o] 5, .own t8 5 J L (h ++ [o]), .own tySender 111 i f s.2]) (fun s => Z) (fun s => hb s.1 s.2) (fun s => hc s.1 s.2) ⟨0, a⟩ hd (by exact ee.reg) (by exact bX) ?_
  rintro ⟨y, I⟩ hf hg hh eg eh
  have a9 := he y I hf
  refine sqB eg eh [] [] [(89, .bool (decide (y < (a.length : Int))))] ?_; intro ej ba
  refine s_ (c_ ba a9 (fun _ hi => ?_) fun _ hS => ?_)
  ·
   apply k_
   have ek : Fr 149 [] [⟨4, [], .slice none 0 0⟩, ⟨6, [], .slice i I.length f⟩, ⟨12, [], .slice J (h ++ [o]).length L⟩, ⟨13, [], i6 j⟩, ⟨14, [], y8 o⟩, ⟨53, [], i6 z⟩, ⟨54, [], i6 j⟩, ⟨87, [], i6 (a.length : Int)⟩, ⟨88, [], i6 y⟩] ej := ba.reg
   obtain ⟨hj, hk, hl⟩ := hi
   refine wp_seq_k fun KJ588 hKJ589 => ?_
   have bb : ∀ (aw : List Sender), hj aw → ∀ a1 w1, Fr 149 [] [⟨4, [], .slice none 0 0⟩, ⟨6, [], .slice i aw.length f⟩, ⟨12, [], .slice J (h ++ [o]).length L⟩, ⟨13, [], i6 j⟩, ⟨14, [], y8 o⟩, ⟨53, [], i6 z⟩, ⟨54, [], i6 j⟩, ⟨87, [], i6 (a.length : Int)⟩, ⟨88, [], i6 y⟩] a1 → Mem w.heap.size [] w Z [.row av [y8 o] 5, .own t8 5 J L (h ++ [o]), .own tySender 111 i f aw] Z w1 → KJ588 a1 w1 := by
    rintro aw hm jK jL el em
    refine hKJ589 _ _ ?_
    have en := hl aw hm
    refine rgB el em [] [] [(88, i6 (w64 (y + 1)))] ?_; intro jM hn
    exact d_ ⟨⟨w64 (y + 1), aw⟩, en.1, en.2, (hn.reg).anyβ _ (by kernel_rfl), em.kp⟩
   refine b_ (sqB ek eh [] [] [(18, i6 y)] ?_); intro jN eo
   refine sqH ?_; intro ho ep
   refine bt eo eh 2 [] [] [(91, .slice i I.length f), (92, i6 y)] ?_; intro jO eq
   obtain ⟨hq, er⟩ := hk
   refine ixo eq eh 2 (T := tySender) (xs := I) y hq (k := .i64) (e := 111) (bytes := 24) (nog rfl _) rfl (by kernel_rfl) rfl (by kernel_rfl) (by kernel_rfl) rfl (by kernel_rfl) ?_; intro Q jP hr es
   subst hr
   refine s1 es 19 (.pointer (some ⟨Q, y.toNat * 2, none⟩)) ?_; intro jQ et
   apply ep
   refine sqH ?_; intro b0 ax
   refine bt et eh 3 [] [] [(96, .pointer (some ⟨Q, y.toNat * 2 + 1, none⟩))] ?_; intro jR eu
   obtain ⟨ac, hs, bc⟩ := gxq er (by first | omega | (simp only [List.length_set] at *; omega))
   obtain ⟨ht, hu, hv⟩ := own_el eh 2 (T := tySender) (xs := I) rfl y.toNat hs
   obtain rfl : ht = ([str ac.row, i6 ac.lost] : List Value) := hu
   refine lc1 eu 97 (i6 ac.lost) (hv 1 _ rfl) rfl ?_; intro jS ev
   refine bt ev eh 2 [] [] [(99, .bool (decide (ac.lost < 0)))] ?_; intro jT bd
   refine e_ bc (fun aM ew => ?_) fun aM hR => ?_
   ·
    have ex := bd.reval (d := 99) (c := []) (v := .bool (decide (ac.lost < 0))) (by kernel_rfl) (.bool true) (by rw [aM])
    refine bt ex eh 4 [] [100, 101, 102, 103] [(100, i6 j), (103, .pointer (some ⟨Q, y.toNat * 2 + 0, none⟩))] ?_; intro jU b1
    obtain ⟨ad, hx, be⟩ := gxq ew (by first | omega | (simp only [List.length_set] at *; omega))
    obtain ⟨hy, hz, hA⟩ := own_el eh 2 (T := tySender) (xs := I) rfl y.toNat hx
    obtain rfl : hy = ([str ad.row, i6 ad.lost] : List Value) := hz
    refine lc1 b1 104 (str ad.row) (hA 0 _ rfl) rfl ?_ (hw := (wK b1 true)); intro jV ey
    refine bt ey eh 4 [] [105, 106, 107] [(108, .bool (decide (j < (ad.row.length : Int))))] ?_; intro jW bf
    refine e_ be (fun aN ez => ?_) fun aN hQ => ?_
    ·
     have eA := bf.reval (d := 108) (c := []) (v := .bool (decide (j < (ad.row.length : Int)))) (by kernel_rfl) (.bool true) (by rw [aN])
     refine bt eA eh 3 [] [109, 110, 111] [(111, .pointer (some ⟨Q, y.toNat * 2 + 0, none⟩))] ?_; intro jX b2
     obtain ⟨aO, hB, hC⟩ := gxq ez (by first | omega | (simp only [List.length_set] at *; omega))
     obtain ⟨hD, hE, hF⟩ := own_el eh 2 (T := tySender) (xs := I) rfl y.toNat hB
     obtain rfl : hD = ([str aO.row, i6 aO.lost] : List Value) := hE
     refine lc1 b2 112 (str aO.row) (hF 0 _ rfl) rfl ?_ (hw := (wK b2 true)); intro jY bg
     refine g_ bg true (i6 j) ?_; intro jZ bh
     obtain ⟨hG, hH⟩ := hC
     obtain ⟨ay, eB⟩ : ∃ q, aO.row[j.toNat]? = some q := ⟨_, List.getElem?_eq_getElem (by omega)⟩; have bi := hH ay eB
     refine v_ bh (y8 (ay.toNat : Int)) (wK bh true) (stridx_run bh (k := .i64) rfl (by kernel_rfl) (by kernel_rfl) (by kernel_rfl) hG.1 eB) ?_; intro j0 eC
     refine bt eC eh 3 [] [115, 116, 117] [(117, .bool ((ay.toNat : Int) != o))] ?_; intro j1 bj
     apply ax
     refine c_ bj bi (fun _ eD => ?_) fun _ hP => ?_
     ·
      refine rgH ?_; intro hI eE
      refine bt bj eh 4 [] [] [(119, i6 j), (121, .pointer (some ⟨Q, y.toNat * 2 + 1, none⟩))] ?_; intro hJ bk
      obtain ⟨ae, hK, hL⟩ := gxq eD (by first | omega | (simp only [List.length_set] at *; omega))
      refine soP bk eh 2 (T := tySender) (xs := I) y.toNat 1 ae (⟨ae.row, j⟩ : Sender) hK (u := i6 j) (nog rfl _) rfl rfl (by kernel_rfl) rfl (by kernel_rfl) rfl (by kernel_rfl) (by kernel_rfl) (by kernel_rfl) (fun cs9 hT9 => by obtain rfl : cs9 = ([str ae.row, i6 ae.lost] : List Value) := hT9; exact rfl) ?_; intro hM eF
      have hN : Fr 149 [] [⟨4, [], .slice none 0 0⟩, ⟨6, [], .slice (sm Q) (I.set y.toNat (⟨ae.row, j⟩ : Sender)).length f⟩, ⟨12, [], .slice J (h ++ [o]).length L⟩, ⟨13, [], i6 j⟩, ⟨14, [], y8 o⟩, ⟨18, [], i6 y⟩, ⟨19, [], .pointer (some ⟨Q, y.toNat * 2, none⟩)⟩, ⟨53, [], i6 z⟩, ⟨54, [], i6 j⟩, ⟨87, [], i6 (a.length : Int)⟩, ⟨88, [], i6 y⟩, ⟨91, [], .slice (sm Q) (I.set y.toNat (⟨ae.row, j⟩ : Sender)).length f⟩, ⟨92, [], i6 y⟩, ⟨93, [], .pointer (some ⟨Q, y.toNat * 2, none⟩)⟩, ⟨96, [], .pointer (some ⟨Q, y.toNat * 2 + 1, none⟩)⟩, ⟨97, [], i6 ac.lost⟩, ⟨99, [], .bool true⟩, ⟨100, [], i6 j⟩, ⟨103, [], .pointer (some ⟨Q, y.toNat * 2 + 0, none⟩)⟩, ⟨104, [], str ad.row⟩, ⟨108, [], .bool true⟩, ⟨111, [], .pointer (some ⟨Q, y.toNat * 2 + 0, none⟩)⟩, ⟨112, [], str aO.row⟩, ⟨113, [], i6 j⟩, ⟨114, [], y8 (ay.toNat : Int)⟩, ⟨117, [], .bool ((ay.toNat : Int) != o)⟩, ⟨119, [], i6 j⟩, ⟨121, [], .pointer (some ⟨Q, y.toNat * 2 + 1, none⟩)⟩] hJ := by (try simp only [List.length_set] at bk); (try simp only [List.length_set]); exact bk.reg
      have hO : Mem w.heap.size [] w Z [.row av [y8 o] 5, .own t8 5 J L (h ++ [o]), .own tySender 111 (sm Q) f (I.set y.toNat (⟨ae.row, j⟩ : Sender))] Z hM := eF
      apply eE
      exact j_ (d_ (bb (I.set y.toNat (⟨ae.row, j⟩ : Sender)) hL _ _ ((hN.reg).anyβ _ (by kernel_rfl)) (hO.kp)))
     exact l_ (j_ (d_ (bb I hP _ _ ((bj.reg).anyβ _ (by kernel_rfl)) (eh.kp))))
    have eG := bf.reval (d := 108) (c := []) (v := .bool (decide (j < (ad.row.length : Int)))) (by kernel_rfl) (.bool false) (by rw [aN])
    refine bt eG eh 9 [] [109, 110, 111, 112, 113, 114, 115, 116, 117] [(117, .bool false)] ?_; intro j2 eH
    apply ax
    refine cdF eH (by kernel_rfl) ?_
    exact l_ (j_ (d_ (bb I hQ _ _ ((eH.reg).anyβ _ (by kernel_rfl)) (eh.kp))))
   have eI := bd.reval (d := 99) (c := []) (v := .bool (decide (ac.lost < 0))) (by kernel_rfl) (.bool false) (by rw [aM])
   refine bt eI eh 18 [] [100, 101, 102, 103, 104, 105, 106, 107, 109, 110, 111, 112, 113, 114, 115, 116, 117] [(117, .bool false)] ?_; intro j3 eJ
   apply ax
   refine cdF eJ (by kernel_rfl) ?_
   exact l_ (j_ (d_ (bb I hR _ _ ((eJ.reg).anyβ _ (by kernel_rfl)) (eh.kp))))
  exact x_ (y_ (y_ (z_ (j_ (d_ (f3 (h ++ [o]) I J L hS _ _ ((ba.reg).anyβ _ (by kernel_rfl)) (eh.kp)))))))
 refine x_ (y_ (y_ (z_ (t_ (sqB aE cZ [] [] [(3, i6 (-1))] ?_))))); intro j4 eK
 refine s_ (sqB eK cZ [] [] [(124, .slice i a.length f), (125, i6 (a.length : Int)), (126, i6 0)] ?_); intro eL eM
 apply b_
 have eN : Fr 149 [] [⟨3, [], i6 (-1)⟩, ⟨4, [], .slice none 0 0⟩, ⟨12, [], .slice m h.length n⟩, ⟨124, [], .slice i a.length f⟩, ⟨125, [], i6 (a.length : Int)⟩, ⟨126, [], i6 0⟩] eL := eM.reg
 have eO : Mem w.heap.size [] w Z [.own t6 3 none 0 ([] : List Int), .own t8 5 m n h, .own tySender 111 i f a] Z cX := cZ.addNil t6 3 (by decide)
 have eP : Fr 149 [] [⟨3, [], i6 (-1)⟩, ⟨4, [], .slice none ([] : List Int).length 0⟩, ⟨12, [], .slice m h.length n⟩, ⟨124, [], .slice i a.length f⟩, ⟨125, [], i6 (a.length : Int)⟩, ⟨126, [], i6 0⟩] eL := eN.reg
 obtain ⟨hU, hV, hW, hX⟩ := hT
 refine lp (ι := Int × (List Int) × Int × (Option Addr) × Nat) (fun s => [⟨3, [], i6 s.1⟩, ⟨4, [], .slice s.2.2.2.1 s.2.1.length s.2.2.2.2⟩, ⟨12, [], .slice m h.length n⟩, ⟨124, [], .slice i a.length f⟩, ⟨125, [], i6 (a.length : Int)⟩, ⟨126, [], i6 s.2.2.1⟩]) (fun s => [.own t6 3 s.2.2.2.1 s.2.2.2.2 s.2.1, .own t8 5 m n h, .own tySender 111 i f a]) (fun s => Z) (fun s => hU s.1 s.2.1 s.2.2.1) (fun s => hV s.1 s.2.1 s.2.2.1) ⟨-1, ([] : List Int), 0, none, 0⟩ hW (by exact eP.reg) (by exact eO) ?_
 rintro ⟨G, A, p, D, E⟩ hY h0 h1 eQ eR
 have bl := hX G A p hY
 refine sqB eQ eR [] [] [(127, .bool (decide (p < (a.length : Int))))] ?_; intro j5 aP
 refine s_ (c_ aP bl (fun _ h2 => ?_) fun _ iq => ?_)
 ·
  refine k_ (s_ (b_ (sqH ?_))); intro h3 eT
  refine s1 aP 128 (i6 p) ?_; intro j6 eU
  obtain ⟨h4, eV⟩ := h2
  refine ixo eU eR 2 (T := tySender) (xs := a) p h4 (k := .i64) (e := 111) (bytes := 24) (nog rfl _) rfl (by kernel_rfl) rfl (by kernel_rfl) (by kernel_rfl) rfl (by kernel_rfl) ?_; intro am j7 h5 eW
  subst h5
  obtain ⟨C, h6, h7⟩ := gxq eV (by first | omega | (simp only [List.length_set] at *; omega))
  obtain ⟨h8, h9, ia⟩ := own_el eR 2 (T := tySender) (xs := a) rfl p.toNat h6
  obtain rfl : h8 = ([str C.row, i6 C.lost] : List Value) := h9
  refine lc2 eW 130 2 [str C.row, i6 C.lost] ia rfl ?_; intro j8 eX
  refine nw eX eR pb [str [], i6 0] 111 ?_; intro an j9 ka eY eZ
  refine s1 eY 20 (i6 p) ?_; intro e0 b5
  refine sx b5 eZ 0 [str C.row, i6 C.lost] 0 ?_; intro e1 e2
  have Y : Mem w.heap.size [] w Z [.row an [str C.row, i6 C.lost] 111, .own t6 3 D E A, .own t8 5 m n h, .own tySender 111 (sm am) f a] Z e1 := e2
  apply eT
  have e3 : Fr 149 [] [⟨3, [], i6 G⟩, ⟨4, [], .slice D A.length E⟩, ⟨12, [], .slice m h.length n⟩, ⟨20, [], i6 p⟩, ⟨21, [], pt an 0⟩, ⟨124, [], .slice (sm am) a.length f⟩, ⟨125, [], i6 (a.length : Int)⟩, ⟨126, [], i6 p⟩] e0 := b5.reg
  obtain ⟨ib, bm, ic⟩ := h7
  refine wp_seq_k fun KJ839 hKJ840 => ?_
  have e4 : ∀ (U : Int) (H : List Int) (V : Option Addr) (W : Nat), ib U H → ∀ a1 w1, Fr 149 [] [⟨3, [], i6 U⟩, ⟨4, [], .slice V H.length W⟩, ⟨12, [], .slice m h.length n⟩, ⟨21, [], pt an 0⟩, ⟨124, [], .slice (sm am) a.length f⟩, ⟨125, [], i6 (a.length : Int)⟩, ⟨126, [], i6 p⟩] a1 → Mem w.heap.size [] w Z [.row an [str C.row, i6 C.lost] 111, .own t6 3 V W H, .own t8 5 m n h, .own tySender 111 (sm am) f a] Z w1 → KJ839 a1 w1 := by
   rintro U H V W id kb kc e5 b7
   refine hKJ840 _ _ ?_
   have ie := ic U H id
   refine rgH ?_; intro ig e6
   refine bt e5 b7 3 [0] [] [(139, .slice V H.length W), (141, i6 C.lost)] ?_; intro kd e7
   refine nw e7 b7 (fun b => .slice (sm b) 1 1) [i6 C.lost] 3 ?_; intro e8 ke kf e9 b8
   obtain ⟨ih, fa⟩ := ie
   refine ap e9 b8 2 (T := t6) (xs := H) (ys := [C.lost]) (ao := V) (cap := W) (ao2 := (sm e8)) (cap2 := 1) (t := 33) (e := 3) (bytes := 8) (nog rfl _) rfl (by kernel_rfl) rfl (by kernel_rfl) (by kernel_rfl) (by kernel_rfl) rfl (Src.row b8 0 rfl (RepAll.one (T := t6) (x := C.lost) rfl)) ih ?_; intro b9 ca kg ii kh fb fd
   have fe : Mem w.heap.size [] w Z [.row e8 [i6 C.lost] 3, .row an [str C.row, i6 C.lost] 111, .own t6 3 b9 ca (H ++ [C.lost]), .own t8 5 m n h, .own tySender 111 (sm am) f a] Z ii := fd
   refine s1 fb 4 (.slice b9 (H ++ [C.lost]).length ca) ?_; intro ki ff
   apply e6
   refine j_ (t_ (rgB ff fe [] [] [(126, i6 (w64 (p + 1)))] ?_)); intro kj ij
   exact d_ ⟨⟨U, H ++ [C.lost], w64 (p + 1), b9, ca⟩, fa.1, fa.2, (ij.reg).anyβ _ (by kernel_rfl), fe.kp⟩
  refine b_ (sqB e3 Y [0] [] [(132, .bool (decide (C.lost ≥ 0)))] ?_); intro kk bn
  refine c_ bn bm (fun _ ik => ?_) fun _ bo => ?_
  ·
   exact l_ (j_ (d_ (e4 G A D E ik _ _ ((bn.reg).anyβ _ (by kernel_rfl)) (Y.kp))))
  refine sqB bn Y [] [] [(136, .bool (decide (G ≥ 0)))] ?_; intro kl aQ
  refine c_ aQ bo (fun _ il => ?_) fun _ io => ?_
  ·
   refine sqB aQ Y [] [] [(2, str []), (3, i6 0), (4, .slice none 0 0), (5, i6 9)] ?_; intro km fg
   refine r_ (i_ (h_ (i_ (h_ (h_ (i_ (h_ ?_)))))))
   have im : Mem w.heap.size [] w Z [.own t6 3 none 0 ([] : List Int), .row an [str C.row, i6 C.lost] 111, .own t6 3 D E A, .own t8 5 m n h, .own tySender 111 (sm am) f a] Z e1 := Y.addNil t6 3 (by decide)
   refine rt (fn := Tryz.f42) (v := .tuple #[str [], i6 0, .slice none ([] : List Int).length 0, i6 9]) fg (re4 fg (fn := Tryz.f42) rfl (by kernel_rfl) (by kernel_rfl) (by kernel_rfl) (by kernel_rfl)) ?_
   exact ⟨([], 0, ([] : List Int), 9), none, 0, Z, rfl, il, im.kp⟩
  refine rgB aQ Y [] [] [(3, i6 p)] ?_; intro kn ip
  exact j_ (d_ (e4 p A D E io _ _ ((ip.reg).anyβ _ (by kernel_rfl)) (Y.kp)))
 refine x_ (y_ (y_ (z_ (t_ (sqH ?_))))); intro ir fh
 refine s1 aP 145 (.slice m h.length n) ?_; intro ko ce
 refine u_ ce (str (bstr h)) ((by obtain ⟨Z9, g5, bU, bV⟩ := eR.lend 1 rfl; exact bstr_op ce (g := []) (e := 5) (ao := m) (cap := n) (xs := h) rfl (by kernel_rfl) (by kernel_rfl) (by kernel_rfl) (by kernel_rfl)  bV bU rfl)) ?_; intro kp fi
 refine bt fi eR 6 [] [] [(2, str (bstr h)), (3, i6 G), (4, .slice D A.length E), (5, i6 0)] ?_; intro kq fj
 apply fh
 refine r_ (rt (fn := Tryz.f42) (v := .tuple #[str (bstr h), i6 G, .slice D A.length E, i6 0]) fj (re4 fj (fn := Tryz.f42) rfl (by kernel_rfl) (by kernel_rfl) (by kernel_rfl) (by kernel_rfl)) ?_)
 exact ⟨(bstr h, G, A, 0), D, E, Z, rfl, iq, eR.kp⟩
theorem ieq_walk (u0 : List Int) (u1 : List Int) (ao1 : Option Addr) (cap2 : Nat) (ao4 : Option Addr) (cap5 : Nat) (Z : Fz) (w : World) (hs3 : SlR t6 Z ao1 cap2 u0) (hs6 : SlR t6 Z ao4 cap5 u1) (hZ : Z.on w) {K : Bool → Prop} (hp : ieq_vc u0 u1 K) : Calls Tryz.prog 43 #[.slice ao1 u0.length cap2, .slice ao4 u1.length cap5] w fun e w' => ∃ r : Bool, e = .returned (.bool r) ∧ K r ∧ Below w.heap.size w w' := by
 refine enter0 Tryz.func43 rfl rfl (by kernel_rfl) ?_; intro a0 y; have b := Mem.start w Z hZ
 have l := hp (hs3.small) (hs6.small)
 refine sqB y b [] [] [] ?_; intro aD A
 refine s_ (sqB A b [] [] [(10, .bool ((u0.length : Int) != (u1.length : Int)))] ?_); intro aE d
 refine c_ d l (fun _ W => ?_) fun _ Y => ?_
 ·
  refine sqB d b [] [] [(4, .bool false)] ?_; intro aF X
  exact r_ (h_ (ra1 X (.bool false) ⟨false, rfl, W, b.below⟩))
 refine k_ (s_ (sqB d b [] [] [(12, i6 (u0.length : Int)), (13, i6 0)] ?_)); intro B C
 apply b_
 have D : Fr 26 [] [⟨0, [], .slice ao1 u0.length cap2⟩, ⟨1, [], .slice ao4 u1.length cap5⟩, ⟨12, [], i6 (u0.length : Int)⟩, ⟨13, [], i6 0⟩] B := C.reg
 obtain ⟨aa, ab, ac, ad⟩ := Y
 refine lp (ι := Int) (fun s => [⟨0, [], .slice ao1 u0.length cap2⟩, ⟨1, [], .slice ao4 u1.length cap5⟩, ⟨12, [], i6 (u0.length : Int)⟩, ⟨13, [], i6 s⟩]) (fun s => []) (fun s => Z) (fun s => aa s) (fun s => ab s) 0 ac (by exact D.reg) (by exact b) ?_
 rintro a ae af ag F G
 have m := ad a ae
 refine sqB F G [] [] [(14, .bool (decide (a < (u0.length : Int))))] ?_; intro aG f
 refine s_ (c_ f m (fun _ ah => ?_) fun _ aA => ?_)
 ·
  refine k_ (s_ (b_ (sqB f G [] [] [(5, i6 a)] ?_))); intro ai I
  have J : Fr 26 [] [⟨0, [], .slice ao1 u0.length cap2⟩, ⟨1, [], .slice ao4 u1.length cap5⟩, ⟨5, [], i6 a⟩, ⟨12, [], i6 (u0.length : Int)⟩, ⟨13, [], i6 a⟩] ai := I.reg
  refine sqQH mixed (by kernel_rfl) G ?_; intro aj L
  refine q1 J 16 (.slice ao1 u0.length cap2) ?_; intro aH M
  refine q1 M 17 (i6 a) ?_; intro aI N
  obtain ⟨ak, O⟩ := ah
  refine qx_ N hs3 a ak .i64 3 8 ?_; intro aJ aK al h aL am an ao u
  have ap := O h am
  obtain rfl : al = ([i6 h] : List Value) := ao
  refine qz_ u an 0 (i6 h) rfl ?_; intro aM P
  refine q1 P 20 (.slice ao4 u1.length cap5) ?_; intro aN Q
  refine q1 Q 21 (i6 a) ?_; intro aO R
  obtain ⟨aq, S⟩ := ap
  refine qx_ R hs6 a aq .i64 3 8 ?_; intro aP aQ ar i aR au av aw v
  have n := S i au
  obtain rfl : ar = ([i6 i] : List Value) := aw
  refine qz_ v av 0 (i6 i) rfl ?_; intro aS U
  refine q1 U 24 (.bool (h != i)) ?_; intro aT j
  refine qnl (L _ ?_); intro aU o
  refine c_ j n (fun _ ax => ?_) fun _ V => ?_
  ·
   refine sqB j o [] [] [(4, .bool false)] ?_; intro aV ay
   exact r_ (i_ (h_ (h_ (i_ (h_ (ra1 ay (.bool false) ⟨false, rfl, ax, o.below⟩))))))
  refine l_ (j_ (t_ (rgB j o [] [] [(13, i6 (w64 (a + 1)))] ?_))); intro aW az
  exact d_ ⟨w64 (a + 1), V.1, V.2, (az.reg).anyβ _ (by kernel_rfl), o.kp⟩
 refine x_ (y_ (y_ (z_ (t_ (sqB f G [] [] [(4, .bool true)] ?_))))); intro aX aB
 exact r_ (ra1 aB (.bool true) ⟨true, rfl, aA, G.below⟩)
end Go.Proofs.YtmnlahbngbigdaaGreatDoor
set_option linter.unusedVariables false
set_option linter.unusedSimpArgs false
set_option linter.defProp false
set_option maxRecDepth 100000
set_option maxHeartbeats 0
namespace Go.Proofs.YtmnlahbngbigdaaGreatDoor
open Go.Sy Go.RowKit
def wsend_fun (u0 : List Frame) (hpre : wpre u0) (ao1 : Option Addr) (cap2 : Nat) (Z : Fz) (w : World) (hs3 : SlR tyFrame Z ao1 cap2 u0) (hZ : Z.on w) := fc_ (wsend_walk u0 ao1 cap2 Z w hs3 hZ (wsend_ok u0 hpre))
def ieq_fun (u0 : List Int) (u1 : List Int) (ao1 : Option Addr) (cap2 : Nat) (ao4 : Option Addr) (cap5 : Nat) (Z : Fz) (w : World) (hs3 : SlR t6 Z ao1 cap2 u0) (hs6 : SlR t6 Z ao4 cap5 u1) (hZ : Z.on w) := f_ (ieq_walk u0 u1 ao1 cap2 ao4 cap5 Z w hs3 hs6 hZ (ieq_ok u0 u1))
theorem wired_walk   (Z : Fz) (w : World)  (hZ : Z.on w) {K : Bool → Prop} (hp : wired_vc  K) : Calls Tryz.prog 15 #[] w fun e w' => ∃ r : Bool, e = .returned (.bool r) ∧ K r ∧ Below w.heap.size w w' := by
 refine enter0 Tryz.func15 rfl rfl (by kernel_rfl) ?_; intro a0 D; have l := Mem.start w Z hZ
 refine sqB D l [] [] [] ?_; intro a2 E
 refine sqH ?_; intro ag F
 refine bt E l 2 [] [] [(8, .agg #[i6 6, .bool false, .bool false, .bool false, i6 0, .slice none 0 0]), (9, .agg #[i6 5, .bool false, .bool false, .bool false, i6 0, .slice none 0 0])] ?_; intro a7 G
 refine nw G l (fun b => .slice (sm b) 2 2) [i6 6, .bool false, .bool false, .bool false, i6 0, .slice none 0 0, i6 5, .bool false, .bool false, .bool false, i6 0, .slice none 0 0] 24 ?_; intro s aA H I J
 have ah : Mem w.heap.size [] w Z [.own tyFrame 24 (sm s) 2 ([(⟨6, false, false, false, 0, []⟩ : Frame), (⟨5, false, false, false, 0, []⟩ : Frame)] : List Frame)] Z H := J.rowOwn (T := tyFrame) (xs := ([(⟨6, false, false, false, 0, []⟩ : Frame), (⟨5, false, false, false, 0, []⟩ : Frame)] : List Frame)) 0 rfl (by decide) (by show 2 ≤ lim; decide) ((RepAll.one (T := tyFrame) (x := (⟨6, false, false, false, 0, []⟩ : Frame)) ⟨none, 0, rfl, SlR.nil _ _⟩).append (RepAll.one (T := tyFrame) (x := (⟨5, false, false, false, 0, []⟩ : Frame)) ⟨none, 0, rfl, SlR.nil _ _⟩))
 obtain ⟨ai, aj, L, f⟩ := ah.freeze 0 rfl
 have t : Mem w.heap.size [] w Z [] ai H := L
 obtain ⟨ak, M⟩ := hp
 refine ck I 42 #[.slice (sm s) ([(⟨6, false, false, false, 0, []⟩ : Frame), (⟨5, false, false, false, 0, []⟩ : Frame)] : List Frame).length 2] ?_
 refine (wsend_fun ([(⟨6, false, false, false, 0, []⟩ : Frame), (⟨5, false, false, false, 0, []⟩ : Frame)] : List Frame) ak (sm s) 2 _ _ f t.fz).mono ?_; rintro _ al ⟨h, i, am, rfl, hm⟩; refine ⟨_, rfl, ?_⟩; intro aB N; have O := t.callZ hm
 have j : Mem w.heap.size [] w Z [.own t6 3 h i (sendS ([(⟨6, false, false, false, 0, []⟩ : Frame), (⟨5, false, false, false, 0, []⟩ : Frame)] : List Frame)).2.2.1] am al := O
 have an := M (j.ownSmall 0 rfl)
 refine bt N j 9 [] [] [(1, str (sendS ([(⟨6, false, false, false, 0, []⟩ : Frame), (⟨5, false, false, false, 0, []⟩ : Frame)] : List Frame)).1), (2, i6 (sendS ([(⟨6, false, false, false, 0, []⟩ : Frame), (⟨5, false, false, false, 0, []⟩ : Frame)] : List Frame)).2.1), (3, .slice h (sendS ([(⟨6, false, false, false, 0, []⟩ : Frame), (⟨5, false, false, false, 0, []⟩ : Frame)] : List Frame)).2.2.1.length i), (4, i6 (sendS ([(⟨6, false, false, false, 0, []⟩ : Frame), (⟨5, false, false, false, 0, []⟩ : Frame)] : List Frame)).2.2.2)] ?_; intro aC Q
 apply F
 refine sqH ?_; intro ao R
 refine s1 Q 17 (.agg #[i6 5, .bool false, .bool false, .bool false, i6 0, .slice none 0 0]) ?_; intro aD S
 obtain ⟨ap, m⟩ := an
 refine fc S j (fBits_fun (⟨5, false, false, false, 0, []⟩ : Frame) ap none 0 _ _ (SlR.nil _ _) j.fz) ?_; intro aE aF U g
 refine bt U g 5 [] [] [(5, str (BitsS (⟨5, false, false, false, 0, []⟩ : Frame)).1), (6, i6 (BitsS (⟨5, false, false, false, 0, []⟩ : Frame)).2)] ?_; intro aG V
 apply R
 refine sqH ?_; intro W n
 refine bt V g 16 [] [71] [(36, .bool (((((sendS ([(⟨6, false, false, false, 0, []⟩ : Frame), (⟨5, false, false, false, 0, []⟩ : Frame)] : List Frame)).2.2.2 == 0) && ((BitsS (⟨5, false, false, false, 0, []⟩ : Frame)).2 == 0)) && ((sendS ([(⟨6, false, false, false, 0, []⟩ : Frame), (⟨5, false, false, false, 0, []⟩ : Frame)] : List Frame)).1 == (BitsS (⟨5, false, false, false, 0, []⟩ : Frame)).1)) && ((sendS ([(⟨6, false, false, false, 0, []⟩ : Frame), (⟨5, false, false, false, 0, []⟩ : Frame)] : List Frame)).2.1 == 1)))] ?_; intro aH o
 rcases Bool.eq_false_or_eq_true (((((sendS ([(⟨6, false, false, false, 0, []⟩ : Frame), (⟨5, false, false, false, 0, []⟩ : Frame)] : List Frame)).2.2.2 == 0) && ((BitsS (⟨5, false, false, false, 0, []⟩ : Frame)).2 == 0)) && ((sendS ([(⟨6, false, false, false, 0, []⟩ : Frame), (⟨5, false, false, false, 0, []⟩ : Frame)] : List Frame)).1 == (BitsS (⟨5, false, false, false, 0, []⟩ : Frame)).1)) && ((sendS ([(⟨6, false, false, false, 0, []⟩ : Frame), (⟨5, false, false, false, 0, []⟩ : Frame)] : List Frame)).2.1 == 1)) with k | k
 · -- true
  have aq := m.1 k
  have p := o.reval (d := 36) (c := []) (v := .bool (((((sendS ([(⟨6, false, false, false, 0, []⟩ : Frame), (⟨5, false, false, false, 0, []⟩ : Frame)] : List Frame)).2.2.2 == 0) && ((BitsS (⟨5, false, false, false, 0, []⟩ : Frame)).2 == 0)) && ((sendS ([(⟨6, false, false, false, 0, []⟩ : Frame), (⟨5, false, false, false, 0, []⟩ : Frame)] : List Frame)).1 == (BitsS (⟨5, false, false, false, 0, []⟩ : Frame)).1)) && ((sendS ([(⟨6, false, false, false, 0, []⟩ : Frame), (⟨5, false, false, false, 0, []⟩ : Frame)] : List Frame)).2.1 == 1))) (by kernel_rfl) (.bool true) (by rw [k])
  refine g_ p true (.slice h (sendS ([(⟨6, false, false, false, 0, []⟩ : Frame), (⟨5, false, false, false, 0, []⟩ : Frame)] : List Frame)).2.2.1.length i) ?_; intro aI u
  refine sn u g (fun b => .slice (sm b) 2 2) [i6 11, i6 (-1)] 3 (wK u true) rfl (by kernel_rfl) (by kernel_rfl) ?_; intro q aJ y z ar
  obtain ⟨X, Y, aa, A⟩ := ar.freeze 1 rfl
  have ab : Mem w.heap.size [] w Z [.row q [i6 11, i6 (-1)] 3] X y := aa
  have au : Mem w.heap.size [] w Z [.own t6 3 (sm q) 2 ([11, -1] : List Int)] X y := ab.rowOwn (T := t6) (xs := ([11, -1] : List Int)) 0 rfl (by decide) (by show 2 ≤ lim; decide) ((RepAll.one (T := t6) (x := 11) rfl).append (RepAll.one (T := t6) (x := -1) rfl))
  obtain ⟨av, B, ac, aw⟩ := au.freeze 0 rfl
  replace A := A.mono B
  have C : Mem w.heap.size [] w Z [] av y := ac
  refine fcl z C (.bool (ieqS (sendS ([(⟨6, false, false, false, 0, []⟩ : Frame), (⟨5, false, false, false, 0, []⟩ : Frame)] : List Frame)).2.2.1 ([11, -1] : List Int))) 43 #[.slice h (sendS ([(⟨6, false, false, false, 0, []⟩ : Frame), (⟨5, false, false, false, 0, []⟩ : Frame)] : List Frame)).2.2.1.length i, .slice (sm q) ([11, -1] : List Int).length 2] (wK z true) rfl (by kernel_rfl) (fun _ => by kernel_rfl) (ieq_fun (sendS ([(⟨6, false, false, false, 0, []⟩ : Frame), (⟨5, false, false, false, 0, []⟩ : Frame)] : List Frame)).2.2.1 ([11, -1] : List Int) h i (sm q) 2 _ _ A aw C.fz) ?_; intro aK aL ad ae
  refine bt ad ae 2 [] [40] [(0, .bool (ieqS (sendS ([(⟨6, false, false, false, 0, []⟩ : Frame), (⟨5, false, false, false, 0, []⟩ : Frame)] : List Frame)).2.2.1 ([11, -1] : List Int)))] ?_; intro aM ax
  apply n
  exact r_ (ra1 ax (.bool (ieqS (sendS ([(⟨6, false, false, false, 0, []⟩ : Frame), (⟨5, false, false, false, 0, []⟩ : Frame)] : List Frame)).2.2.1 ([11, -1] : List Int))) ⟨(ieqS (sendS ([(⟨6, false, false, false, 0, []⟩ : Frame), (⟨5, false, false, false, 0, []⟩ : Frame)] : List Frame)).2.2.1 ([11, -1] : List Int)), rfl, aq, ae.below⟩)
 · -- false
  have ay := m.2 k
  have af := o.reval (d := 36) (c := []) (v := .bool (((((sendS ([(⟨6, false, false, false, 0, []⟩ : Frame), (⟨5, false, false, false, 0, []⟩ : Frame)] : List Frame)).2.2.2 == 0) && ((BitsS (⟨5, false, false, false, 0, []⟩ : Frame)).2 == 0)) && ((sendS ([(⟨6, false, false, false, 0, []⟩ : Frame), (⟨5, false, false, false, 0, []⟩ : Frame)] : List Frame)).1 == (BitsS (⟨5, false, false, false, 0, []⟩ : Frame)).1)) && ((sendS ([(⟨6, false, false, false, 0, []⟩ : Frame), (⟨5, false, false, false, 0, []⟩ : Frame)] : List Frame)).2.1 == 1))) (by kernel_rfl) (.bool false) (by rw [k])
  refine bt af g 5 [] [37, 38, 39, 40] [(0, .bool false)] ?_; intro aN az
  apply n
  exact r_ (ra1 az (.bool false) ⟨false, rfl, ay, g.below⟩)
end Go.Proofs.YtmnlahbngbigdaaGreatDoor
set_option linter.unusedVariables false
set_option linter.unusedSimpArgs false
set_option maxRecDepth 100000
set_option maxHeartbeats 0
namespace Go.Proofs.YtmnlahbngbigdaaGreatDoor
open Go.Sy Go.RowKit
theorem gtrim_walk (u0 : List Int) (ao1 : Option Addr) (cap2 : Nat) (Z : Fz) (w : World) (hs3 : SlR (tyInt .u32) Z ao1 cap2 u0) (hZ : Z.on w) {K : (List Int) → Prop} (hp : gtrim_vc u0 K) : Calls Tryz.prog 110 #[.slice ao1 u0.length cap2] w fun e w' => ∃ (r : (List Int)) (ao1001 : Option Addr) (cap1002 : Nat) (Z' : Fz), e = .returned (.slice ao1001 r.length cap1002) ∧ K r ∧ SlR (tyInt .u32) Z' ao1001 cap1002 r ∧ Mem w.heap.size [] w Z [] Z' w' := by
 refine enter0 Tryz.func110 rfl rfl (by kernel_rfl) ?_; intro a0 C; have j := Mem.start w Z hZ
 have aa := hp (hs3.small)
 refine sqB C j [] [] [] ?_; intro a6 D
 refine sqB D j [] [] [(3, i6 (u0.length : Int))] ?_; intro E F
 refine s_ (b_ ?_)
 have G : Fr 21 [] [⟨0, [], .slice ao1 u0.length cap2⟩, ⟨3, [], i6 (u0.length : Int)⟩] E := F.reg
 obtain ⟨ab, ac, ad, ae⟩ := aa
 refine lp (ι := Int) (fun s => [⟨0, [], .slice ao1 u0.length cap2⟩, ⟨3, [], i6 s⟩]) (fun s => []) (fun s => Z) (fun s => ab s) (fun s => ac s) (u0.length : Int) ad (by exact G.region (by kernel_rfl) (by kernel_rfl)) (by exact j) ?_
 rintro a af ag ah I J
 have l := ae a af
 refine s_ (sqH ?_); intro M m
 refine bt I J 3 [] [] [(8, .bool (decide (a > 0)))] ?_; intro aE n
 rcases Bool.eq_false_or_eq_true (decide (a > 0)) with f | f
 · -- true
  have ai := l.1 f
  have N := n.reval (d := 8) (c := []) (v := .bool (decide (a > 0))) (by kernel_rfl) (.bool true) (by rw [f])
  refine bt N J 3 [] [9, 10, 11] [(9, .slice ao1 u0.length cap2), (11, i6 (w64 (a - 1)))] ?_; intro aF q
  obtain ⟨aj, O⟩ := ai
  refine ix q (T := (tyInt .u32)) (xs := u0) hs3 (w64 (a - 1)) aj (k := .i64) (e := 133) (bytes := 4) (wK q true) rfl (by kernel_rfl) rfl (by kernel_rfl) (by kernel_rfl) (by kernel_rfl) ?_; intro aG aH ak h aI al am an o
  have p := O h al
  obtain rfl : ak = ([.int .u32 h] : List Value) := an
  refine v_ o (.int .u32 h) (wK o true) (lz o J.fz am 0 (g := []) rfl (by kernel_rfl) (by kernel_rfl) (by kernel_rfl) rfl) ?_; intro aJ P
  refine bt P J 2 [] [14, 15] [(15, .bool (h == 0))] ?_; intro aK i
  apply m
  refine cd i (t := h == 0) (by kernel_rfl) (fun u => ?_) (fun u => ?_)
  · -- yes
   have Q := p.1 u
   refine k_ (b_ (rgB i J [] [] [(3, i6 (w64 (a - 1)))] ?_)); intro aL ao
   exact j_ (d_ ⟨w64 (a - 1), Q.1, Q.2, (ao.region (by kernel_rfl) (by kernel_rfl)).anyβ _ (by kernel_rfl), J.kp⟩)
  · -- no
   have ap := p.2 u
   refine x_ (y_ (y_ (z_ (t_ (sqH ?_))))); intro aq R
   refine bt i J 2 [] [] [(18, .slice ao1 u0.length cap2), (19, i6 a)] ?_; intro aM S
   obtain ⟨ar, au⟩ := ap
   refine slH S (T := (tyInt .u32)) (xs := u0) hs3 a ar (k' := .i64) (e := 133) (bytes := 4) (nog rfl _) rfl (by kernel_rfl) rfl (by kernel_rfl) (by kernel_rfl) (by kernel_rfl) ?_; intro x y aN aO av U
   refine s1 U 2 (.slice x (u0.take a.toNat).length y) ?_; intro aP aw
   apply R
   exact r_ (ra1 aw (.slice x (u0.take a.toNat).length y) ⟨u0.take a.toNat, x, y, Z, rfl, au, av, J.kp⟩)
 · -- false
  have ax := l.2 f
  have V := n.reval (d := 8) (c := []) (v := .bool (decide (a > 0))) (by kernel_rfl) (.bool false) (by rw [f])
  refine bt V J 7 [] [9, 10, 11, 12, 13, 14, 15] [(15, .bool false)] ?_; intro aQ z
  apply m
  refine cdF z (by kernel_rfl) ?_
  refine x_ (y_ (y_ (z_ (t_ (sqH ?_))))); intro ay W
  refine bt z J 2 [] [] [(18, .slice ao1 u0.length cap2), (19, i6 a)] ?_; intro aR X
  obtain ⟨az, aA⟩ := ax
  refine slH X (T := (tyInt .u32)) (xs := u0) hs3 a az (k' := .i64) (e := 133) (bytes := 4) (nog rfl _) rfl (by kernel_rfl) rfl (by kernel_rfl) (by kernel_rfl) (by kernel_rfl) ?_; intro A B aS aT aB Y
  refine s1 Y 2 (.slice A (u0.take a.toNat).length B) ?_; intro aU aC
  apply W
  exact r_ (ra1 aC (.slice A (u0.take a.toNat).length B) ⟨u0.take a.toNat, A, B, Z, rfl, aA, aB, J.kp⟩)
theorem glength_walk (u0 : List Int) (ao1 : Option Addr) (cap2 : Nat) (Z : Fz) (w : World) (hs3 : SlR (tyInt .u32) Z ao1 cap2 u0) (hZ : Z.on w) {K : Int → Prop} (hp : glength_vc u0 K) : Calls Tryz.prog 94 #[.slice ao1 u0.length cap2] w fun e w' => ∃ r : Int, e = .returned (i6 r) ∧ K r ∧ Below w.heap.size w w' := by
 refine enter0 Tryz.func94 rfl rfl (by kernel_rfl) ?_; intro a0 n; have a := Mem.start w Z hZ
 have i := hp (hs3.small)
 refine sqB n a [] [] [] ?_; intro a6 o
 refine s_ (sqB o a [] [] [(7, .bool ((u0.length : Int) == 0))] ?_); intro ag g
 refine cd g (t := (u0.length : Int) == 0) (by kernel_rfl) (fun l => ?_) (fun l => ?_)
 · -- yes
  have I := i.1 l
  refine sqB g a [] [] [(2, i6 0)] ?_; intro ah J
  exact r_ (h_ (ra1 J (i6 0) ⟨0, rfl, I, a.below⟩))
 · -- no
  have L := i.2 l
  refine k_ (sqB g a [] [] [(3, i6 0)] ?_); intro ai p
  refine s_ (sqH ?_); intro M q
  refine bt p a 4 [] [] [(8, .slice ao1 u0.length cap2), (11, i6 (w64 ((u0.length : Int) - 1)))] ?_; intro aj u
  obtain ⟨N, v⟩ := L
  refine ix_ u hs3 (w64 ((u0.length : Int) - 1)) N .i64 133 4 ?_; intro ak al O b am P Q R x
  have S := v b P
  obtain rfl : O = ([.int .u32 b] : List Value) := R
  refine z1 x a 13 Q 0 (.int .u32 b) rfl ?_; intro an y
  refine s1 y 4 (.int .u32 b) ?_; intro z A
  apply q
  apply b_
  have B : Fr 26 [] [⟨0, [], .slice ao1 u0.length cap2⟩, ⟨3, [], i6 0⟩, ⟨4, [], .int .u32 b⟩] z := A.reg
  obtain ⟨U, V, W, X⟩ := S
  refine lp (ι := Int × Int) (fun s => [⟨0, [], .slice ao1 u0.length cap2⟩, ⟨3, [], i6 s.1⟩, ⟨4, [], .int .u32 s.2⟩]) (fun s => []) (fun s => Z) (fun s => U s.1 s.2) (fun s => V s.1 s.2) ⟨0, b⟩ W (by exact B.region (by kernel_rfl) (by kernel_rfl)) (by exact a) ?_
  rintro ⟨c, d⟩ Y aa ab D E
  have j := X c d Y
  refine s_ (sqB D E [] [] [(15, .bool (d != 0))] ?_); intro ao h
  refine cd h (t := d != 0) (by kernel_rfl) (fun m => ?_) (fun m => ?_)
  · -- yes
   have G := j.1 m
   refine k_ (s_ (b_ (rgB h E [] [] [(3, i6 (w64 (c + 1)))] ?_))); intro ap H
   refine j_ (t_ (rgB H E [] [] [(4, .int .u32 (bShr .u32 d 1))] ?_)); intro aq ac
   exact d_ ⟨⟨w64 (c + 1), bShr .u32 d 1⟩, G.1, G.2, (ac.region (by kernel_rfl) (by kernel_rfl)).anyβ _ (by kernel_rfl), E.kp⟩
  · -- no
   have ad := j.2 m
   refine x_ (y_ (y_ (z_ (t_ (sqB h E [] [] [(2, i6 (w64 ((w64 ((w64 ((u0.length : Int) - 1)) * 32)) + c)))] ?_))))); intro ar ae
   exact r_ (ra1 ae (i6 (w64 ((w64 ((w64 ((u0.length : Int) - 1)) * 32)) + c))) ⟨w64 ((w64 ((w64 ((u0.length : Int) - 1)) * 32)) + c), rfl, ad, E.below⟩)
end Go.Proofs.YtmnlahbngbigdaaGreatDoor
