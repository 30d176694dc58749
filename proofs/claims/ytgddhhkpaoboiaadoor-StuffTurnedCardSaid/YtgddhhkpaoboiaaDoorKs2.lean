/- Texts put together (pure ones, or walks made by program). -/
import Derived.Test.YtgddhhkpaoboiaaDoorKs0
import Derived.Test.YtgddhhkpaoboiaaDoorKs1
import Derived.Test.YtgddhhkpaoboiaaDoorRows
import Derived.Shelf.Lay
import Derived.Ground.NamesProg
import Derived.Shelf.Strings.SlTrimAscii
import Derived.Shelf.Strings.MapGrows
import Derived.Lib.LaidU8T
import Derived.Lib.MapLaws
import Derived.Lib.TrimAscii
namespace Go.Proofs
open Go.Shelf
def Tryd.lays160_ren : Go.Shelf.Ren := ⟨fun | 160 => 24 | 232 => 34 | 231 => 33 | 227 => 35 | 234 => 37 | 233 => 36 | 236 => 39 | 235 => 38 | 228 => 45 | 271 => 47 | 151 => 46 | 197 => 26 | 120 => 51 | 152 => 50 | 260 => 41 | 137 => 52 | 119 => 53 | 224 => 54 | 225 => 55 | 217 => 56 | 266 => 57 | n => n, fun | 9 => 9 | 4 => 4 | 3 => 3 | 5 => 5 | 117 => 73 | 116 => 72 | 0 => 0 | 124 => 76 | 21 => 21 | 105 => 59 | 46 => 56 | 119 => 84 | 139 => 87 | 138 => 86 | n => n, fun | 3 => 0 | 4 => 1 | n => n⟩
theorem Tryd.lays160 : Go.Proofs.Lays.n160 Tryd.prog Tryd.lays160_ren := {
  mixed := by kernel_rfl
  f119 := Tryd.func53.trans (congrArg some (by kernel_rfl))
  f120 := Tryd.func51.trans (congrArg some (by kernel_rfl))
  f137 := Tryd.func52.trans (congrArg some (by kernel_rfl))
  f151 := Tryd.func46.trans (congrArg some (by kernel_rfl))
  f152 := Tryd.func50.trans (congrArg some (by kernel_rfl))
  f160 := Tryd.func24.trans (congrArg some (by kernel_rfl))
  f197 := Tryd.func26.trans (congrArg some (by kernel_rfl))
  f217 := Tryd.func56.trans (congrArg some (by kernel_rfl))
  f224 := Tryd.func54.trans (congrArg some (by kernel_rfl))
  f225 := Tryd.func55.trans (congrArg some (by kernel_rfl))
  f227 := Tryd.func35.trans (congrArg some (by kernel_rfl))
  f228 := Tryd.func45.trans (congrArg some (by kernel_rfl))
  f231 := Tryd.func33.trans (congrArg some (by kernel_rfl))
  f232 := Tryd.func34.trans (congrArg some (by kernel_rfl))
  f233 := Tryd.func36.trans (congrArg some (by kernel_rfl))
  f234 := Tryd.func37.trans (congrArg some (by kernel_rfl))
  f235 := Tryd.func38.trans (congrArg some (by kernel_rfl))
  f236 := Tryd.func39.trans (congrArg some (by kernel_rfl))
  f260 := Tryd.func41.trans (congrArg some (by kernel_rfl))
  f266 := Tryd.func57.trans (congrArg some (by kernel_rfl))
  f271 := Tryd.func47.trans (congrArg some (by kernel_rfl))
  t0 := Tryd.underlying0
  a0 := Tryd.isAgg0
  z0 := Tryd.sizeOf0
  v0 := Tryd.zeroValue0
  t3 := Tryd.underlying3
  a3 := Tryd.isAgg3
  z3 := Tryd.sizeOf3
  v3 := Tryd.zeroValue3
  t4 := Tryd.underlying4
  a4 := Tryd.isAgg4
  z4 := Tryd.sizeOf4
  v4 := Tryd.zeroValue4
  t5 := Tryd.underlying5
  a5 := Tryd.isAgg5
  z5 := Tryd.sizeOf5
  v5 := Tryd.zeroValue5
  t9 := Tryd.underlying9
  a9 := Tryd.isAgg9
  z9 := Tryd.sizeOf9
  v9 := Tryd.zeroValue9
  t21 := Tryd.underlying21
  a21 := Tryd.isAgg21
  z21 := Tryd.sizeOf21
  v21 := Tryd.zeroValue21
  t46 := Tryd.underlying56
  a46 := Tryd.isAgg56
  z46 := Tryd.sizeOf56
  v46 := Tryd.zeroValue56
  t105 := Tryd.underlying59
  a105 := Tryd.isAgg59
  z105 := Tryd.sizeOf59
  v105 := Tryd.zeroValue59
  t116 := Tryd.underlying72
  a116 := Tryd.isAgg72
  z116 := Tryd.sizeOf72
  t117 := Tryd.underlying73
  a117 := Tryd.isAgg73
  z117 := Tryd.sizeOf73
  v117 := Tryd.zeroValue73
  t119 := Tryd.underlying84
  a119 := Tryd.isAgg84
  z119 := Tryd.sizeOf84
  t124 := Tryd.underlying76
  a124 := Tryd.isAgg76
  z124 := Tryd.sizeOf76
  v124 := Tryd.zeroValue76
  t138 := Tryd.underlying86
  a138 := Tryd.isAgg86
  z138 := Tryd.sizeOf86
  v138 := Tryd.zeroValue86
  t139 := Tryd.underlying87
  a139 := Tryd.isAgg87
  z139 := Tryd.sizeOf87
  v139 := Tryd.zeroValue87
  g3 := by kernel_rfl
  g4 := by kernel_rfl }
end Go.Proofs
set_option linter.unusedVariables false
set_option linter.unusedSimpArgs false
set_option linter.defProp false
set_option maxRecDepth 100000
set_option maxHeartbeats 0
namespace Go.Proofs.YtgddhhkpaoboiaaDoor
open Go.Sy Go.RowKit
theorem mixed : Tryd.prog.follows .mixedOrders = true := by kernel_rfl
theorem rdCounter : Rd Tryd.prog 51 tyCounter okCounter := by
  refine ⟨fun enc w fuel cs x h hw => ?_⟩
  have hu : Tryd.prog.underlying 51 = some (.struct _) := Tryd.underlying51
  have hl := rd_len hu h (m := 2) (by kernel_rfl)
  obtain ⟨b, d, e⟩ := rd_field hu h hw 0 rfl (rd_int (P := Tryd.prog) (t := 5) (k := .u8) (by kernel_rfl)) (m := 1) (by kernel_rfl) (off := 0) rfl
  have f : (cs.drop 0).take 1 = [y8 b] := d
  obtain ⟨a, g, i⟩ := rd_field hu h hw 1 rfl (rd_int (P := Tryd.prog) (t := 3) (k := .i64) (by kernel_rfl)) (m := 1) (by kernel_rfl) (off := 1) rfl
  have j : (cs.drop 1).take 1 = [i6 a] := g
  have z : cs.drop 2 = [] := List.drop_eq_nil_of_le (by omega)
  have l : cs.drop 1 = [i6 a] := by rw [show cs.drop 1 = (cs.drop 1).take 1 ++ cs.drop 2 from cut_at cs 1 1, j, z]; rfl
  have c : cs.drop 0 = [y8 b, i6 a] := by rw [show cs.drop 0 = (cs.drop 0).take 1 ++ cs.drop 1 from cut_at cs 0 1, f, l]; rfl
  refine ⟨⟨b, a⟩, ?_, e, i⟩
  rw [List.drop_zero] at c
  exact c

theorem rdReader : Rd Tryd.prog 68 tyReader okReader := by
  refine ⟨fun enc w fuel cs x h hw => ?_⟩
  have hu : Tryd.prog.underlying 68 = some (.struct _) := Tryd.underlying68
  have hl := rd_len hu h (m := 5) (by kernel_rfl)
  obtain ⟨d, f, g⟩ := rd_field hu h hw 0 rfl (rd_str (P := Tryd.prog) (t := 9) (by kernel_rfl)) (m := 1) (by kernel_rfl) (off := 0) rfl
  have i : (cs.drop 0).take 1 = [str d] := f
  obtain ⟨c, j, l⟩ := rd_field hu h hw 1 rfl (rd_int (P := Tryd.prog) (t := 3) (k := .i64) (by kernel_rfl)) (m := 1) (by kernel_rfl) (off := 1) rfl
  have o : (cs.drop 1).take 1 = [i6 c] := j
  obtain ⟨b, p, q⟩ := rd_field hu h hw 2 rfl (rd_int (P := Tryd.prog) (t := 23) (k := .i64) (by kernel_rfl)) (m := 1) (by kernel_rfl) (off := 2) rfl
  have r : (cs.drop 2).take 1 = [i6 b] := p
  obtain ⟨a, s, u⟩ := rd_field hu h hw 3 rfl rdCounter (m := 2) (by kernel_rfl) (off := 3) rfl
  have v : (cs.drop 3).take 2 = [y8 a.last, i6 a.n] := s
  have z : cs.drop 5 = [] := List.drop_eq_nil_of_le (by omega)
  have y : cs.drop 3 = [y8 a.last, i6 a.n] := by rw [show cs.drop 3 = (cs.drop 3).take 2 ++ cs.drop 5 from cut_at cs 3 2, v, z]; rfl
  have A : cs.drop 2 = [i6 b, y8 a.last, i6 a.n] := by rw [show cs.drop 2 = (cs.drop 2).take 1 ++ cs.drop 3 from cut_at cs 2 1, r, y]; rfl
  have B : cs.drop 1 = [i6 c, i6 b, y8 a.last, i6 a.n] := by rw [show cs.drop 1 = (cs.drop 1).take 1 ++ cs.drop 2 from cut_at cs 1 1, o, A]; rfl
  have e : cs.drop 0 = [str d, i6 c, i6 b, y8 a.last, i6 a.n] := by rw [show cs.drop 0 = (cs.drop 0).take 1 ++ cs.drop 1 from cut_at cs 0 1, i, B]; rfl
  refine ⟨⟨d, c, b, a⟩, ?_, g, l, q, u⟩
  rw [List.drop_zero] at e
  exact e

theorem trim_fun (u0 : List UInt8) (u1 : List UInt8) (hpre : u0.length ≤ 9223372036854775807 ∧ u1.length < 4294967281 ∧ u1.all (fun b => decide (b.toNat < 128)) = true) (Z : Fz) (w : World) (hZ : Z.on w) : Calls Tryd.prog 24 #[str u0, str u1] w fun e w' => e = .returned (str (trimS u0 u1)) ∧ Below w.heap.size w w' := by
  have h := Any.strings_Trim_laid Tryd.lays160 (by kernel_rfl) ⟨⟨u0⟩⟩ ⟨⟨u1⟩⟩ w (by show u0.length ≤ _; exact hpre.1) (by show u1.length < _; exact hpre.2.1) (ascii_of_all hpre.2.2)
  exact h

theorem tcl_walk (u0 : Int)  (Z : Fz) (w : World)  (hZ : Z.on w) {K : Int → Prop} (hp : tcl_vc u0 K) : Calls Tryd.prog 21 #[.int .i32 u0] w fun e w' => ∃ r : Int, e = .returned (.int .i32 r) ∧ K r ∧ Below w.heap.size w w' := by
 refine enter0 Tryd.func21 rfl rfl (by kernel_rfl) ?_; intro f b; have a := Mem.start w Z hZ
 refine sqB b a [] [] [] ?_; intro h c
 refine sqB c a [] [] [(2, .int .i32 (w32 (97 - u0)))] ?_; intro i d
 exact r_ (ra1 d (.int .i32 (w32 (97 - u0))) ⟨w32 (97 - u0), rfl, hp, a.below⟩)
def tcl_fun (u0 : Int)  (Z : Fz) (w : World)  (hZ : Z.on w) := f_ (tcl_walk u0  Z w  hZ (tcl_ok u0))
end Go.Proofs.YtgddhhkpaoboiaaDoor
set_option linter.unusedVariables false
set_option linter.unusedSimpArgs false
set_option maxRecDepth 100000
set_option maxHeartbeats 0
namespace Go.Proofs.YtgddhhkpaoboiaaDoor
open Go.Sy Go.RowKit
theorem bcheck_walk (u0 : List UInt8)  (Z : Fz) (w : World)  (hZ : Z.on w) {K : Int → Prop} (hp : bcheck_vc u0 K) : Calls Tryd.prog 16 #[str u0] w fun e w' => ∃ r : Int, e = .returned (i6 r) ∧ K r ∧ Below w.heap.size w w' := by
 refine enter0 Tryd.func16 rfl rfl (by kernel_rfl) ?_; intro z i; have a := Mem.start w Z hZ
 refine sqB i a [] [] [] ?_; intro B j
 refine s_ (sqB j a [] [] [(5, .bool (decide ((u0.length : Int) > 1000)))] ?_); intro C b
 refine cd b (t := decide ((u0.length : Int) > 1000)) (by kernel_rfl) (fun g => ?_) (fun g => ?_)
 · -- yes
  have n := hp.1 g
  refine sqB b a [] [] [(2, i6 2)] ?_; intro D o
  exact r_ (h_ (ra1 o (i6 2) ⟨2, rfl, n, a.below⟩))
 · -- no
  have p := hp.2 g
  refine k_ (s_ (sqH ?_)); intro q k
  refine s1 b 6 (str u0) ?_; intro E l
  obtain ⟨s, d⟩ := p
  refine fc l a (trim_fun u0 ([48, 49] : List UInt8) s _ _ a.fz) ?_; intro F G m f
  refine sc m .neq (.bool ((trimS u0 ([48, 49] : List UInt8)) != ([] : List UInt8))) ?_; intro H c
  apply k
  refine cd c (t := (trimS u0 ([48, 49] : List UInt8)) != ([] : List UInt8)) (by kernel_rfl) (fun h => ?_) (fun h => ?_)
  · -- yes
   have u := d.1 h
   refine sqB c f [] [] [(2, i6 4)] ?_; intro I v
   exact r_ (h_ (ra1 v (i6 4) ⟨4, rfl, u, f.below⟩))
  · -- no
   have x := d.2 h
   refine k_ (sqB c f [] [] [(2, i6 0)] ?_); intro J y
   exact r_ (ra1 y (i6 0) ⟨0, rfl, x, f.below⟩)

theorem cnext_walk (u0 : Counter) (u1 : Int) (b1 : Nat) (B : Nat) (w0 : World) (Z0 : Fz) (Rr : List Res) (Z : Fz) (w : World) (hM0 : Mem B [] w0 Z0 ((.row b1 [y8 u0.last, i6 u0.n] 51) :: Rr) Z w) (hZ : Z.on w) {K : (Int × Bool × Counter) → Prop} (hp : cnext_vc u0 u1 K) : Calls Tryd.prog 22 #[pt b1 0, y8 u1] w fun e w' => ∃ (r : Int × Bool × Counter) (Z' : Fz), e = .returned (.tuple #[y8 r.1, .bool r.2.1]) ∧ K r ∧ Fz.le Z Z' ∧ Mem B [] w0 Z0 ((.row b1 [y8 r.2.2.last, i6 r.2.2.n] 51) :: Rr) Z' w' := by
 refine enter0 Tryd.func22 rfl rfl (by kernel_rfl) ?_; intro a0 l; have m := Fz.le.refl Z
 refine sqB l hM0 [] [] [] ?_; intro a5 o
 refine s_ (sqB o hM0 [0] [] [(11, .bool (u1 == u0.last))] ?_); intro ah a
 refine cd a (t := u1 == u0.last) (by kernel_rfl) (fun c => ?_) (fun c => ?_)
 · -- yes
  have S := hp.1 c
  refine rgH ?_; intro T p
  refine bt a hM0 7 [0] [] [(16, i6 (w64 (u0.n + 1))), (18, pt b1 1)] ?_; intro U d
  refine sx d hM0 0 [y8 u0.last, i6 (w64 (u0.n + 1))] 1 ?_; intro V q
  have s : Mem B [] w0 Z0 ((.row b1 [y8 u0.last, i6 (w64 (u0.n + 1))] 51) :: Rr) Z V := q
  apply p
  apply t_
  have u : Fr 33 [] [⟨0, [], pt b1 0⟩, ⟨1, [], y8 u1⟩] U := d.reg
  refine sqQH mixed (by kernel_rfl) s ?_; intro W v
  refine q1 u 26 (y8 u1) ?_; intro ai x
  refine q1 x 27 (y8 (w8 (97 - u1))) ?_; intro aj y
  refine q1 y 28 (pt b1 0) ?_; intro ak z
  refine q1 z 29 (pt b1 0) ?_; intro al A
  refine q1 A 30 (pt b1 1) ?_; intro am f
  refine ql_ f 0 1 (i6 (w64 (u0.n + 1))) rfl rfl ?_; intro an C
  refine q1 C 32 (.bool ((w64 (u0.n + 1)) == 5)) ?_; intro ao D
  refine q1 D 4 (y8 (w8 (97 - u1))) ?_; intro ap E
  refine q1 E 5 (.bool ((w64 (u0.n + 1)) == 5)) ?_; intro aq X
  refine qnl (v _ ?_); intro ar Y
  exact r_ (ra2 X (.tuple #[y8 (w8 (97 - u1)), .bool ((w64 (u0.n + 1)) == 5)]) ⟨(w8 (97 - u1), (w64 (u0.n + 1)) == 5, (⟨u0.last, w64 (u0.n + 1)⟩ : Counter)), Z, rfl, S, m, Y.kp⟩)
 · -- no
  have aa := hp.2 c
  refine rgH ?_; intro ab F
  refine bt a hM0 5 [] [] [(20, pt b1 0), (21, y8 u1), (23, pt b1 0)] ?_; intro au h
  refine sx h hM0 0 [y8 u1, i6 u0.n] 0 ?_; intro av i
  refine bt h i 2 [] [] [(25, pt b1 1)] ?_; intro ac j
  refine sx j i 0 [y8 u1, i6 1] 1 ?_; intro ad G
  have H : Mem B [] w0 Z0 ((.row b1 [y8 u1, i6 1] 51) :: Rr) Z ad := G
  apply F
  apply t_
  have I : Fr 33 [] [⟨0, [], pt b1 0⟩, ⟨1, [], y8 u1⟩] ac := j.reg
  refine sqQH mixed (by kernel_rfl) H ?_; intro ae J
  refine q1 I 26 (y8 u1) ?_; intro aw L
  refine q1 L 27 (y8 (w8 (97 - u1))) ?_; intro ax M
  refine q1 M 28 (pt b1 0) ?_; intro ay N
  refine q1 N 29 (pt b1 0) ?_; intro az O
  refine q1 O 30 (pt b1 1) ?_; intro aA k
  refine ql_ k 0 1 (i6 1) rfl rfl ?_; intro aB P
  refine q1 P 32 (.bool false) ?_; intro aC Q
  refine q1 Q 4 (y8 (w8 (97 - u1))) ?_; intro aD R
  refine q1 R 5 (.bool false) ?_; intro aE af
  refine qnl (J _ ?_); intro aF ag
  exact r_ (ra2 af (.tuple #[y8 (w8 (97 - u1)), .bool false]) ⟨(w8 (97 - u1), false, (⟨u1, 1⟩ : Counter)), Z, rfl, aa, m, ag.kp⟩)

theorem cnextR_walk (u0 : Reader) (u1 : Int) (b1 : Nat) (B : Nat) (w0 : World) (Z0 : Fz) (Rr : List Res) (Z : Fz) (w : World) (hM0 : Mem B [] w0 Z0 ((.row b1 [str u0.Row, i6 u0.At, i6 u0.Code, y8 u0.c.last, i6 u0.c.n] 68) :: Rr) Z w) (hZ : Z.on w) {K : (Int × Bool × Reader) → Prop} (hp : cnextR_vc u0 u1 K) : Calls Tryd.prog 22 #[pt b1 3, y8 u1] w fun e w' => ∃ (r : Int × Bool × Reader) (Z' : Fz), e = .returned (.tuple #[y8 r.1, .bool r.2.1]) ∧ K r ∧ Fz.le Z Z' ∧ Mem B [] w0 Z0 ((.row b1 [str r.2.2.Row, i6 r.2.2.At, i6 r.2.2.Code, y8 r.2.2.c.last, i6 r.2.2.c.n] 68) :: Rr) Z' w' := by
 refine enter0 Tryd.func22 rfl rfl (by kernel_rfl) ?_; intro a0 m; have o := Fz.le.refl Z
 refine sqB m hM0 [] [] [] ?_; intro a5 p
 refine s_ (sqB p hM0 [0] [] [(11, .bool (u1 == u0.c.last))] ?_); intro ai a
 refine cd a (t := u1 == u0.c.last) (by kernel_rfl) (fun d => ?_) (fun d => ?_)
 · -- yes
  have T := hp.1 d
  refine rgH ?_; intro U q
  refine bt a hM0 7 [0] [] [(16, i6 (w64 (u0.c.n + 1))), (18, pt b1 4)] ?_; intro V f
  refine sx f hM0 0 [str u0.Row, i6 u0.At, i6 u0.Code, y8 u0.c.last, i6 (w64 (u0.c.n + 1))] 4 ?_; intro W s
  have u : Mem B [] w0 Z0 ((.row b1 [str u0.Row, i6 u0.At, i6 u0.Code, y8 u0.c.last, i6 (w64 (u0.c.n + 1))] 68) :: Rr) Z W := s
  apply q
  apply t_
  have v : Fr 33 [] [⟨0, [], pt b1 3⟩, ⟨1, [], y8 u1⟩] V := f.reg
  refine sqQH mixed (by kernel_rfl) u ?_; intro X x
  refine q1 v 26 (y8 u1) ?_; intro aj y
  refine q1 y 27 (y8 (w8 (97 - u1))) ?_; intro ak z
  refine q1 z 28 (pt b1 3) ?_; intro al A
  refine q1 A 29 (pt b1 3) ?_; intro am C
  refine q1 C 30 (pt b1 4) ?_; intro an h
  refine ql_ h 0 4 (i6 (w64 (u0.c.n + 1))) rfl rfl ?_; intro ao D
  refine q1 D 32 (.bool ((w64 (u0.c.n + 1)) == 5)) ?_; intro ap E
  refine q1 E 4 (y8 (w8 (97 - u1))) ?_; intro aq F
  refine q1 F 5 (.bool ((w64 (u0.c.n + 1)) == 5)) ?_; intro ar Y
  refine qnl (x _ ?_); intro au aa
  exact r_ (ra2 Y (.tuple #[y8 (w8 (97 - u1)), .bool ((w64 (u0.c.n + 1)) == 5)]) ⟨(w8 (97 - u1), (w64 (u0.c.n + 1)) == 5, (⟨u0.Row, u0.At, u0.Code, (⟨u0.c.last, w64 (u0.c.n + 1)⟩ : Counter)⟩ : Reader)), Z, rfl, T, o, aa.kp⟩)
 · -- no
  have ab := hp.2 d
  refine rgH ?_; intro ac G
  refine bt a hM0 5 [] [] [(20, pt b1 3), (21, y8 u1), (23, pt b1 3)] ?_; intro av i
  refine sx i hM0 0 [str u0.Row, i6 u0.At, i6 u0.Code, y8 u1, i6 u0.c.n] 3 ?_; intro aw j
  refine bt i j 2 [] [] [(25, pt b1 4)] ?_; intro ad k
  refine sx k j 0 [str u0.Row, i6 u0.At, i6 u0.Code, y8 u1, i6 1] 4 ?_; intro ae H
  have I : Mem B [] w0 Z0 ((.row b1 [str u0.Row, i6 u0.At, i6 u0.Code, y8 u1, i6 1] 68) :: Rr) Z ae := H
  apply G
  apply t_
  have J : Fr 33 [] [⟨0, [], pt b1 3⟩, ⟨1, [], y8 u1⟩] ad := k.reg
  refine sqQH mixed (by kernel_rfl) I ?_; intro af L
  refine q1 J 26 (y8 u1) ?_; intro ax M
  refine q1 M 27 (y8 (w8 (97 - u1))) ?_; intro ay N
  refine q1 N 28 (pt b1 3) ?_; intro az O
  refine q1 O 29 (pt b1 3) ?_; intro aA P
  refine q1 P 30 (pt b1 4) ?_; intro aB l
  refine ql_ l 0 4 (i6 1) rfl rfl ?_; intro aC Q
  refine q1 Q 32 (.bool false) ?_; intro aD R
  refine q1 R 4 (y8 (w8 (97 - u1))) ?_; intro aE S
  refine q1 S 5 (.bool false) ?_; intro aF ag
  refine qnl (L _ ?_); intro aG ah
  exact r_ (ra2 ag (.tuple #[y8 (w8 (97 - u1)), .bool false]) ⟨(w8 (97 - u1), false, (⟨u0.Row, u0.At, u0.Code, (⟨u1, 1⟩ : Counter)⟩ : Reader)), Z, rfl, ab, o, ah.kp⟩)

theorem rbit_walk (u0 : Reader) (b1 : Nat) (B : Nat) (w0 : World) (Z0 : Fz) (Rr : List Res) (Z : Fz) (w : World) (hM0 : Mem B [] w0 Z0 ((.row b1 [str u0.Row, i6 u0.At, i6 u0.Code, y8 u0.c.last, i6 u0.c.n] 68) :: Rr) Z w) (hZ : Z.on w) {K : (Int × Reader) → Prop} (hp : rbit_vc u0 K) : Calls Tryd.prog 44 #[pt b1 0] w fun e w' => ∃ (r : Int × Reader) (Z' : Fz), e = .returned (y8 r.1) ∧ K r ∧ Fz.le Z Z' ∧ Mem B [] w0 Z0 ((.row b1 [str r.2.Row, i6 r.2.At, i6 r.2.Code, y8 r.2.c.last, i6 r.2.c.n] 68) :: Rr) Z' w' := by
 refine enter0 Tryd.func44 rfl rfl (by kernel_rfl) ?_; intro a0 z; have j := Fz.le.refl Z
 refine sqB z hM0 [] [] [] ?_; intro a3 A
 refine s_ (sqB A hM0 [0] [] [(7, .bool (u0.Code != 0))] ?_); intro ad d
 refine cd d (t := u0.Code != 0) (by kernel_rfl) (fun l => ?_) (fun l => ?_)
 · -- yes
  have ae := hp.1 l
  refine sqB d hM0 [] [] [(2, y8 48)] ?_; intro ax af
  exact r_ (h_ (ra1 af (y8 48) ⟨(48, u0), Z, rfl, ae, j, hM0.kp⟩))
 · -- no
  have i := hp.2 l
  refine k_ (s_ ?_)
  have C : Fr 38 [] [⟨0, [], pt b1 0⟩] ad := d.reg
  refine sqQH mixed (by kernel_rfl) hM0 ?_; intro ag D
  refine q1 C 8 (pt b1 0) ?_; intro ay E
  refine q1 E 9 (pt b1 0) ?_; intro az F
  refine q1 F 10 (pt b1 1) ?_; intro aA m
  refine ql_ m 0 1 (i6 u0.At) rfl rfl ?_; intro aB G
  refine q1 G 12 (pt b1 0) ?_; intro aC H
  refine q1 H 13 (pt b1 0) ?_; intro aD I
  refine q1 I 14 (pt b1 0) ?_; intro aE o
  refine ql_ o 0 0 (str u0.Row) rfl rfl ?_; intro aF J
  refine q1 J 16 (i6 (u0.Row.length : Int)) ?_; intro aG L
  refine q1 L 17 (.bool (u0.At == (u0.Row.length : Int))) ?_; intro aH f
  refine qnl (D _ ?_); intro aI a
  refine cd f (t := u0.At == (u0.Row.length : Int)) (by kernel_rfl) (fun p => ?_) (fun p => ?_)
  · -- yes
   have ah := i.1 p
   refine sqH ?_; intro ai M
   refine bt f a 3 [] [] [(20, pt b1 2)] ?_; intro aJ s
   refine sx s a 0 [str u0.Row, i6 u0.At, i6 7, y8 u0.c.last, i6 u0.c.n] 2 ?_; intro aj N
   have O : Mem B [] w0 Z0 ((.row b1 [str u0.Row, i6 u0.At, i6 7, y8 u0.c.last, i6 u0.c.n] 68) :: Rr) Z aj := N
   apply M
   refine sqB s O [] [] [(2, y8 48)] ?_; intro aK ak
   exact r_ (h_ (ra1 ak (y8 48) ⟨(48, (⟨u0.Row, u0.At, 7, u0.c⟩ : Reader)), Z, rfl, ah, j, O.kp⟩))
  · -- no
   have al := i.2 p
   refine k_ (sqH ?_); intro am P
   refine bt f a 7 [0] [] [(25, i6 (w64 (u0.At + 1))), (27, pt b1 1)] ?_; intro an u
   refine sx u a 0 [str u0.Row, i6 (w64 (u0.At + 1)), i6 u0.Code, y8 u0.c.last, i6 u0.c.n] 1 ?_; intro ao Q
   have R : Mem B [] w0 Z0 ((.row b1 [str u0.Row, i6 (w64 (u0.At + 1)), i6 u0.Code, y8 u0.c.last, i6 u0.c.n] 68) :: Rr) Z ao := Q
   apply P
   have S : Fr 38 [] [⟨0, [], pt b1 0⟩] an := u.reg
   refine sqQH mixed (by kernel_rfl) R ?_; intro ap T
   refine q1 S 28 (pt b1 0) ?_; intro aL U
   refine q1 U 29 (pt b1 0) ?_; intro aM V
   refine q1 V 30 (pt b1 0) ?_; intro aN v
   refine ql_ v 0 0 (str u0.Row) rfl rfl ?_; intro aO W
   refine q1 W 32 (pt b1 0) ?_; intro aP X
   refine q1 X 33 (pt b1 0) ?_; intro aQ Y
   refine q1 Y 34 (pt b1 1) ?_; intro aR x
   refine ql_ x 0 1 (i6 (w64 (u0.At + 1))) rfl rfl ?_; intro aS aa
   refine q1 aa 36 (i6 (w64 ((w64 (u0.At + 1)) - 1))) ?_; intro aT y
   obtain ⟨aq, ar⟩ := al
   obtain ⟨h, ab⟩ : ∃ q, u0.Row[(w64 ((w64 (u0.At + 1)) - 1)).toNat]? = some q := ⟨_, List.getElem?_eq_getElem (by omega)⟩; have au := ar h ab
   refine qu_ y (y8 (h.toNat : Int)) (fun v119 hC => stridx_run y (k := .i64) rfl (by kernel_rfl) (by kernel_rfl) (by kernel_rfl) aq.1 ab) ?_; intro aU ac
   refine q1 ac 2 (y8 (h.toNat : Int)) ?_; intro aV av
   refine qnl (T _ ?_); intro aW aw
   exact r_ (ra1 av (y8 (h.toNat : Int)) ⟨((h.toNat : Int), (⟨u0.Row, w64 (u0.At + 1), u0.Code, u0.c⟩ : Reader)), Z, rfl, au, j, aw.kp⟩)

end Go.Proofs.YtgddhhkpaoboiaaDoor
namespace Go.Proofs
open Go.Shelf
def Tryd.lays230_ren : Go.Shelf.Ren := ⟨fun | 118 => 27 | 165 => 28 | 166 => 18 | 167 => 31 | 168 => 29 | 169 => 19 | 197 => 26 | 230 => 20 | 240 => 25 | 241 => 42 | 242 => 43 | 260 => 41 | 270 => 30 | 276 => 40 | 277 => 48 | 278 => 49 | n => n, fun | 37 => 22 | 46 => 56 | 51 => 89 | 70 => 40 | 72 => 42 | 75 => 44 | 76 => 45 | 80 => 47 | 105 => 59 | 107 => 49 | 119 => 84 | 127 => 58 | 138 => 86 | 139 => 87 | 164 => 77 | n => n, fun | 3 => 0 | 4 => 1 | n => n⟩
theorem Tryd.lays230 : Lays.n230 Tryd.prog Tryd.lays230_ren := {
  mixed := by kernel_rfl
  f118 := Tryd.func27.trans (congrArg some (by kernel_rfl))
  f165 := Tryd.func28.trans (congrArg some (by kernel_rfl))
  f166 := Tryd.func18.trans (congrArg some (by kernel_rfl))
  f167 := Tryd.func31.trans (congrArg some (by kernel_rfl))
  f168 := Tryd.func29.trans (congrArg some (by kernel_rfl))
  f169 := Tryd.func19.trans (congrArg some (by kernel_rfl))
  f197 := Tryd.func26.trans (congrArg some (by kernel_rfl))
  f230 := Tryd.func20.trans (congrArg some (by kernel_rfl))
  f240 := Tryd.func25.trans (congrArg some (by kernel_rfl))
  f241 := Tryd.func42.trans (congrArg some (by kernel_rfl))
  f242 := Tryd.func43.trans (congrArg some (by kernel_rfl))
  f260 := Tryd.func41.trans (congrArg some (by kernel_rfl))
  f270 := Tryd.func30.trans (congrArg some (by kernel_rfl))
  f276 := Tryd.func40.trans (congrArg some (by kernel_rfl))
  f277 := Tryd.func48.trans (congrArg some (by kernel_rfl))
  f278 := Tryd.func49.trans (congrArg some (by kernel_rfl))
  t0 := Tryd.underlying0
  a0 := Tryd.isAgg0
  z0 := Tryd.sizeOf0
  v0 := Tryd.zeroValue0
  t3 := Tryd.underlying3
  a3 := Tryd.isAgg3
  z3 := Tryd.sizeOf3
  v3 := Tryd.zeroValue3
  t4 := Tryd.underlying4
  a4 := Tryd.isAgg4
  z4 := Tryd.sizeOf4
  v4 := Tryd.zeroValue4
  t5 := Tryd.underlying5
  a5 := Tryd.isAgg5
  z5 := Tryd.sizeOf5
  v5 := Tryd.zeroValue5
  t9 := Tryd.underlying9
  a9 := Tryd.isAgg9
  z9 := Tryd.sizeOf9
  v9 := Tryd.zeroValue9
  t20 := Tryd.underlying20
  a20 := Tryd.isAgg20
  z20 := Tryd.sizeOf20
  v20 := Tryd.zeroValue20
  t21 := Tryd.underlying21
  a21 := Tryd.isAgg21
  z21 := Tryd.sizeOf21
  v21 := Tryd.zeroValue21
  t37 := Tryd.underlying22
  a37 := Tryd.isAgg22
  z37 := Tryd.sizeOf22
  v37 := Tryd.zeroValue22
  t46 := Tryd.underlying56
  a46 := Tryd.isAgg56
  z46 := Tryd.sizeOf56
  v46 := Tryd.zeroValue56
  t51 := Tryd.underlying89
  a51 := Tryd.isAgg89
  z51 := Tryd.sizeOf89
  v51 := Tryd.zeroValue89
  t70 := Tryd.underlying40
  a70 := Tryd.isAgg40
  z70 := Tryd.sizeOf40
  v70 := Tryd.zeroValue40
  t72 := Tryd.underlying42
  a72 := Tryd.isAgg42
  z72 := Tryd.sizeOf42
  v72 := Tryd.zeroValue42
  t75 := Tryd.underlying44
  a75 := Tryd.isAgg44
  z75 := Tryd.sizeOf44
  v75 := Tryd.zeroValue44
  t76 := Tryd.underlying45
  a76 := Tryd.isAgg45
  z76 := Tryd.sizeOf45
  v76 := Tryd.zeroValue45
  t105 := Tryd.underlying59
  a105 := Tryd.isAgg59
  z105 := Tryd.sizeOf59
  v105 := Tryd.zeroValue59
  t107 := Tryd.underlying49
  a107 := Tryd.isAgg49
  z107 := Tryd.sizeOf49
  v107 := Tryd.zeroValue49
  t119 := Tryd.underlying84
  a119 := Tryd.isAgg84
  z119 := Tryd.sizeOf84
  t127 := Tryd.underlying58
  a127 := Tryd.isAgg58
  z127 := Tryd.sizeOf58
  v127 := Tryd.zeroValue58
  t138 := Tryd.underlying86
  a138 := Tryd.isAgg86
  z138 := Tryd.sizeOf86
  v138 := Tryd.zeroValue86
  t139 := Tryd.underlying87
  a139 := Tryd.isAgg87
  z139 := Tryd.sizeOf87
  v139 := Tryd.zeroValue87
  t164 := Tryd.underlying77
  a164 := Tryd.isAgg77
  z164 := Tryd.sizeOf77
  v164 := Tryd.zeroValue77
  g3 := by kernel_rfl
  g4 := by kernel_rfl }
theorem Tryd.lays230X : Builder.Extra Tryd.prog Tryd.lays230_ren := {
  sizeBuilder := by kernel_rfl
  liesBuilder := by kernel_rfl
  t5 := by kernel_rfl
  a5 := fun w => by kernel_rfl
  z5 := fun w => by kernel_rfl
  v5 := fun w => by kernel_rfl
  infoByte := by kernel_rfl
  cellsByte := by kernel_rfl
  sizeByte := by kernel_rfl
  neB5 := by decide }
theorem Tryd.lays230_u8T : U8Types Tryd.prog Tryd.lays230_ren := ⟨by kernel_rfl, by kernel_rfl, by kernel_rfl, by kernel_rfl⟩
theorem Tryd.lays230_u8X : U8Extra Tryd.prog Tryd.lays230_ren := ⟨by kernel_rfl, by kernel_rfl, by kernel_rfl, by kernel_rfl, by kernel_rfl, by kernel_rfl, by kernel_rfl⟩

end Go.Proofs
set_option linter.unusedVariables false
set_option linter.unusedSimpArgs false
set_option linter.defProp false
set_option maxRecDepth 100000
set_option maxHeartbeats 0
namespace Go.Proofs.YtgddhhkpaoboiaaDoor
open Go.Sy Go.RowKit
abbrev e68B (X : Reader) : List Value := [str X.Row, i6 X.At, i6 X.Code, y8 X.c.last, i6 X.c.n]
def bcheck_fun (u0 : List UInt8)  (Z : Fz) (w : World)  (hZ : Z.on w) := f_ (bcheck_walk u0  Z w  hZ (bcheck_ok u0))
open Go.Lib in
def u8firstL : List Int := (List.range 256).map fun c => (firstT c : Int)
open Go.Lib in
def u8accL : List Int := ((List.range 16).map fun i => [(accLo i : Int), (accHi i : Int)]).flatten
theorem sl_of_cells {W : World} {zs : List Int} {g : Nat} (hne : zs ≠ []) (hz : zs.length ≤ 1000000) (h : ∀ i x, zs[i]? = some x → W.cell? ⟨g, i, none⟩ = some (y8 x)) : SlR t8 (Zw W) (sm g) zs.length zs := by
  refine ⟨Nat.le_refl _, by simp only [maxLen]; omega, by simp only [lim]; omega, by simp, fun _ => ?_⟩
  obtain ⟨z, b⟩ : ∃ z, zs[0]? = some z := by cases zs with
    | nil => exact absurd rfl hne
    | cons z zs => exact ⟨z, rfl⟩
  have a := h 0 z b
  unfold World.cell? at a
  cases hh : W.heap[g]? with
  | none => simp [hh] at a
  | some ob =>
    cases ob with
    | cells arr e fr =>
      refine ⟨g, 0, rfl, arr, e, fr, by simpa [Zw] using hh, fun i x hx => ⟨[y8 x], rfl, fun j u hu => ?_⟩⟩
      have hc := h i x hx
      cases j with
      | zero =>
        cases hu
        have c : (0 + i * t8.n + 0) = i := by simp [tyInt]
        rw [c]
        simpa [World.cell?, hh] using hc
      | succ j => simp at hu
    | _ => simp [hh] at a
theorem cells_of_sl {W : World} {Z : Fz} {zs : List Int} {g n : Nat} (h : SlR t8 Z (sm g) n zs) (hZ : Z.on W) {i : Nat} {x : Int} (hx : zs[i]? = some x) : W.cell? ⟨g, i, none⟩ = some (y8 x) := by
  have hne : zs ≠ [] := fun e => by rw [e] at hx; cases hx
  obtain ⟨b, off, hb, arr, e, fr, hz, hc⟩ := h.at_ hne
  simp only [Option.some.injEq, Addr.mk.injEq, and_true] at hb
  obtain ⟨rfl, rfl⟩ := hb
  obtain ⟨cs, hcs, hk⟩ := hc i x hx
  have hcs : cs = [y8 x] := hcs
  subst hcs
  have a := hk 0 _ rfl
  have c : (0 + i * t8.n + 0) = i := by simp [tyInt]
  rw [c] at a
  simp [World.cell?, hZ _ _ hz, a]
theorem u8first_sl {W : World} {g h : Nat} (hU : Lib.Utf8Tabs g h W) : SlR t8 (Zw W) (sm g) 256 u8firstL := by
  have e : u8firstL.length = 256 := by simp [u8firstL]
  have k := sl_of_cells (W := W) (g := g) (zs := u8firstL) (fun c => by rw [c] at e; cases e) (by rw [e]; decide) (fun i x hx => by
    unfold u8firstL at hx
    rw [List.getElem?_map] at hx
    obtain ⟨c, hc, rfl⟩ := Option.map_eq_some_iff.1 hx
    obtain ⟨hl, a⟩ := List.getElem?_eq_some_iff.1 hc
    rw [List.length_range] at hl
    rw [List.getElem_range] at a
    subst a
    exact hU.1 _ hl)
  rw [e] at k
  exact k
theorem u8acc_at (i : Nat) (hi : i < 16) : u8accL[2 * i]? = some (Lib.accLo i : Int) ∧ u8accL[2 * i + 1]? = some (Lib.accHi i : Int) := by
  have : ∀ i : Fin 16, u8accL[2 * i.1]? = some (Lib.accLo i.1 : Int) ∧ u8accL[2 * i.1 + 1]? = some (Lib.accHi i.1 : Int) := by decide +kernel
  exact this ⟨i, hi⟩
theorem u8acc_sl {W : World} {g h : Nat} (hU : Lib.Utf8Tabs g h W) : SlR t8 (Zw W) (sm h) 32 u8accL := by
  have e : u8accL.length = 32 := by decide +kernel
  have k := sl_of_cells (W := W) (g := h) (zs := u8accL) (fun c => by rw [c] at e; cases e) (by rw [e]; decide) (fun i x hx => by
    have hl : i < 32 := by
      have := (List.getElem?_eq_some_iff.1 hx).1
      omega
    obtain ⟨a, b⟩ := hU.2 (i / 2) (by omega)
    obtain ⟨d, f⟩ := u8acc_at (i / 2) (by omega)
    rcases Nat.mod_two_eq_zero_or_one i with hm | hm
    · have e : 2 * (i / 2) = i := by omega
      rw [e] at a d
      rw [d] at hx; cases hx; exact a
    · have e : 2 * (i / 2) + 1 = i := by omega
      rw [e] at b f
      rw [f] at hx; cases hx; exact b)
  rw [e] at k
  exact k
theorem u8tabs_of {W : World} {Z : Fz} {g h : Nat} (hg : SlR t8 Z (sm g) 256 u8firstL) (hh : SlR t8 Z (sm h) 32 u8accL) (hZ : Z.on W) : Lib.Utf8Tabs g h W := by
  refine ⟨fun c hc => cells_of_sl hg hZ ?_, fun i hi => ⟨cells_of_sl hh hZ (u8acc_at i hi).1, cells_of_sl hh hZ (u8acc_at i hi).2⟩⟩
  unfold u8firstL
  rw [List.getElem?_map, List.getElem?_range hc]; rfl
theorem mapD_row (f : Int → Int) (hf : ∀ c : UInt8, isBit c = true → f (c.toNat : Int) = ((flip c).toNat : Int)) : ∀ u : List UInt8, isRow u = true → Lib.mapD f u = u.map flip
  | [], _ => rfl
  | c :: r, h => by
    have h2 := h
    rw [isRow_cons, Bool.and_eq_true] at h2
    have hc := isBit_or h2.1
    have hlt : c.toNat < 128 := by rcases hc with rfl | rfl <;> decide
    rw [Lib.mapD_step f (c :: r) (by simp), Lib.decodeL_ascii c r hlt]
    have hr : (c :: r).drop 1 = r := rfl
    rw [hr, mapD_row f hf r h2.2, hf c h2.1]
    have he : Lib.encodeRune ((flip c).toNat : Int) = [flip c] := by
      have : flip c = 48 ∨ flip c = 49 := isBit_or (isBit_flip c)
      rcases this with e | e <;> rw [e] <;> decide
    rw [if_pos (by omega), he]
    rfl
theorem smap_fun (u1 : List UInt8) (hpre : isRow u1 = true ∧ u1.length ≤ 1000000)  (Z : Fz) (w : World) (hg0 : SlR (tyInt .u8) Z (some ⟨0, 0, none⟩) 256 u8firstL) (hg1 : SlR (tyInt .u8) Z (some ⟨1, 0, none⟩) 32 u8accL) (hZ : Z.on w) : Calls Tryd.prog 20 #[.func (.func 21) #[] #[], str u1] w fun e w' => e = .returned (str (smapS u1)) ∧ Below w.heap.size w w' := by
  -- by hand
  have hb : ∀ x : Int, -2147483648 ≤ tcl x ∧ tcl x ≤ 2147483647 := fun x => by unfold tcl; exact w32_in _
  have h := Any.strings_Map_grows Tryd.lays230 Tryd.lays230X 21 #[] (fun _ _ => by kernel_rfl) (fun x => tcl x) ⟨⟨u1⟩⟩ w (by show u1.length < _; omega)
    (fun W x _ _ => tcl_fun (x : Int) (fun _ => none) W (fun _ _ h => by cases h)) (fun x _ => hb x) (u8tabs_of hg0 hg1 hZ)
  have e : Lib.mapD (fun x => tcl x) u1 = smapS u1 := mapD_row _ (fun c hc => tcl_bit c hc) u1 hpre.1
  refine h.mono fun e1 w1 h1 => ?_
  obtain ⟨h1, h2⟩ := h1
  have e2 : (⟨⟨u1⟩⟩ : ByteArray).data.toList = u1 := rfl
  rw [e2, e] at h1
  exact ⟨h1, h2⟩

theorem cnext_fun (u0 : Counter) (u1 : Int) (hpre : -1000000 ≤ u0.n ∧ u0.n ≤ 1000000 ∧ 0 ≤ u1 ∧ u1 ≤ 97) (b1 : Nat) (B : Nat) (w0 : World) (Z0 : Fz) (Rr : List Res) (Z : Fz) (w : World) (hM0 : Mem B [] w0 Z0 ((.row b1 [y8 u0.last, i6 u0.n] 51) :: Rr) Z w) (hZ : Z.on w) : Calls Tryd.prog 22 #[pt b1 0, y8 u1] w fun e w' => ∃ (Z' : Fz), e = .returned (.tuple #[y8 (cnextS u0 u1).1, .bool (cnextS u0 u1).2.1]) ∧ Fz.le Z Z' ∧ Mem B [] w0 Z0 ((.row b1 [y8 (cnextS u0 u1).2.2.last, i6 (cnextS u0 u1).2.2.n] 51) :: Rr) Z' w' :=
  (cnext_walk u0 u1 b1 B w0 Z0 Rr Z w hM0 hZ (cnext_ok u0 u1 hpre)).mono fun _ _ ⟨r, h0, he, hk, f0, hm⟩ => by subst hk; exact ⟨h0, he, f0, hm⟩

theorem cnextR_fun (u0 : Reader) (u1 : Int) (hpre : -1000000 ≤ u0.c.n ∧ u0.c.n ≤ 1000000 ∧ 0 ≤ u1 ∧ u1 ≤ 97) (b1 : Nat) (B : Nat) (w0 : World) (Z0 : Fz) (Rr : List Res) (Z : Fz) (w : World) (hM0 : Mem B [] w0 Z0 ((.row b1 [str u0.Row, i6 u0.At, i6 u0.Code, y8 u0.c.last, i6 u0.c.n] 68) :: Rr) Z w) (hZ : Z.on w) : Calls Tryd.prog 22 #[pt b1 3, y8 u1] w fun e w' => ∃ (Z' : Fz), e = .returned (.tuple #[y8 (cnextRS u0 u1).1, .bool (cnextRS u0 u1).2.1]) ∧ Fz.le Z Z' ∧ Mem B [] w0 Z0 ((.row b1 [str (cnextRS u0 u1).2.2.Row, i6 (cnextRS u0 u1).2.2.At, i6 (cnextRS u0 u1).2.2.Code, y8 (cnextRS u0 u1).2.2.c.last, i6 (cnextRS u0 u1).2.2.c.n] 68) :: Rr) Z' w' :=
  (cnextR_walk u0 u1 b1 B w0 Z0 Rr Z w hM0 hZ (cnextR_ok u0 u1 hpre)).mono fun _ _ ⟨r, h0, he, hk, f0, hm⟩ => by subst hk; exact ⟨h0, he, f0, hm⟩

theorem rbit_fun (u0 : Reader) (hpre : 0 ≤ u0.At ∧ u0.At ≤ (u0.Row.length : Int) ∧ u0.Row.length ≤ 1000000) (b1 : Nat) (B : Nat) (w0 : World) (Z0 : Fz) (Rr : List Res) (Z : Fz) (w : World) (hM0 : Mem B [] w0 Z0 ((.row b1 [str u0.Row, i6 u0.At, i6 u0.Code, y8 u0.c.last, i6 u0.c.n] 68) :: Rr) Z w) (hZ : Z.on w) : Calls Tryd.prog 44 #[pt b1 0] w fun e w' => ∃ (Z' : Fz), e = .returned (y8 (rbitS u0).1) ∧ Fz.le Z Z' ∧ Mem B [] w0 Z0 ((.row b1 [str (rbitS u0).2.Row, i6 (rbitS u0).2.At, i6 (rbitS u0).2.Code, y8 (rbitS u0).2.c.last, i6 (rbitS u0).2.c.n] 68) :: Rr) Z' w' :=
  (rbit_walk u0 b1 B w0 Z0 Rr Z w hM0 hZ (rbit_ok u0 hpre)).mono fun _ _ ⟨r, h0, he, hk, f0, hm⟩ => by subst hk; exact ⟨h0, he, f0, hm⟩

theorem rtake_walk (u0 : Reader) (u1 : Int) (b1 : Nat) (B : Nat) (w0 : World) (Z0 : Fz) (Rr : List Res) (Z : Fz) (w : World) (hM0 : Mem B [] w0 Z0 ((.row b1 [str u0.Row, i6 u0.At, i6 u0.Code, y8 u0.c.last, i6 u0.c.n] 68) :: Rr) Z w) (hZ : Z.on w) {K : ((List UInt8) × Reader) → Prop} (hp : rtake_vc u0 u1 K) : Calls Tryd.prog 32 #[pt b1 0, i6 u1] w fun e w' => ∃ (r : (List UInt8) × Reader) (Z' : Fz), e = .returned (str r.1) ∧ K r ∧ Fz.le Z Z' ∧ Mem B [] w0 Z0 ((.row b1 [str r.2.Row, i6 r.2.At, i6 r.2.Code, y8 r.2.c.last, i6 r.2.c.n] 68) :: Rr) Z' w' := by
 refine enter0 Tryd.func32 rfl rfl (by kernel_rfl) ?_; intro a0 ae; have j := Fz.le.refl Z
 refine sqB ae hM0 [] [] [] ?_; intro a3 af
 refine sqB af hM0 [] [] [(5, .slice none 0 0)] ?_; intro a6 ag
 refine s_ (sqB ag hM0 [] [] [(10, i6 u1), (11, i6 0)] ?_); intro ah ai
 apply b_
 have aj : Fr 61 [] [⟨0, [], pt b1 0⟩, ⟨5, [], .slice none 0 0⟩, ⟨10, [], i6 u1⟩, ⟨11, [], i6 0⟩] ah := ai.reg
 have ak : Mem B [] w0 Z0 ((.own t8 5 none 0 ([] : List Int)) :: (.row b1 (e68B u0) 68) :: Rr) Z w := hM0.addNil t8 5 (by decide)
 have al : Fr 61 [] [⟨0, [], pt b1 0⟩, ⟨5, [], .slice none ([] : List Int).length 0⟩, ⟨10, [], i6 u1⟩, ⟨11, [], i6 0⟩] ah := aj.reg
 obtain ⟨bn, bo, bp, bq⟩ := hp
 refine lp (ι := (List Int) × Int × Reader × (Option Addr) × Nat × Fz) (fun s => [⟨0, [], pt b1 0⟩, ⟨5, [], .slice s.2.2.2.1 s.1.length s.2.2.2.2.1⟩, ⟨10, [], i6 u1⟩, ⟨11, [], i6 s.2.1⟩]) (fun s => ((.own t8 5 s.2.2.2.1 s.2.2.2.2.1 s.1) :: (.row b1 (e68B s.2.2.1) 68) :: Rr)) (fun s => s.2.2.2.2.2) (fun s => bn s.1 s.2.1 s.2.2.1 ∧ Fz.le Z s.2.2.2.2.2) (fun s => bo s.1 s.2.1 s.2.2.1) ⟨([] : List Int), 0, u0, none, 0, Z⟩ ⟨bp, Fz.le.refl _⟩ (by exact al.region (by kernel_rfl) (by kernel_rfl)) (by exact ak) ?_
 rintro ⟨d, l, m, v, y, S⟩ ⟨br, k⟩ bs bu am an
 have L := bq d l m br
 replace j := Fz.le.trans j k
 refine sqB am an [] [] [(12, .bool (decide (l < u1)))] ?_; intro cl F
 apply s_
 refine cd F (t := decide (l < u1)) (by kernel_rfl) (fun U => ?_) (fun U => ?_)
 · -- yes
  have bv := L.1 U
  refine k_ (s_ (b_ (sqH ?_))); intro bw ar
  refine s1 F 13 (pt b1 0) ?_; intro cm au
  obtain ⟨bx, av⟩ := bv
  refine ck au 44 #[pt b1 0] ?_
  obtain ⟨a, bz, M⟩ := hxq av
  have h := rbit_fun m bx b1 _ _ _ _ _ _ (an.perm (pk 1 rfl)) an.fz; rw [bz] at h; refine h.mono ?_; rintro _ bA ⟨V, rfl, aw, hm⟩; refine ⟨_, rfl, ?_⟩; intro cn ax; have ay := hm
  replace k := k.mono aw
  replace j := Fz.le.trans j aw
  have C : Mem B [] w0 Z0 ((.row b1 (e68B a.2) 68) :: (.own t8 5 v y d) :: Rr) V bA := ay
  refine s1 ax 6 (y8 a.1) ?_; intro co az
  apply ar
  refine s_ (sqB az C [0] [] [(19, .bool (a.2.Code != 0))] ?_); intro cp G
  refine cd G (t := a.2.Code != 0) (by kernel_rfl) (fun W => ?_) (fun W => ?_)
  · -- yes
   have bB := M.1 W
   refine sqB G C [] [] [(4, str [])] ?_; intro cq bC
   exact r_ (h_ (i_ (h_ (h_ (i_ (h_ (ra1 bC (str []) ⟨([], a.2), V, rfl, bB, j, C.kp⟩)))))))
  · -- no
   have bD := M.2 W
   refine k_ (sqH ?_); intro bE aA
   refine bt G C 2 [] [] [(20, .slice v d.length y), (21, y8 a.1)] ?_; intro cr aB
   refine nw aB C (fun b => .slice (sm b) 1 1) [y8 a.1] 5 ?_; intro z cs ct aC X
   obtain ⟨bF, bG⟩ := bD
   refine ap aC X 2 (T := t8) (xs := d) (ys := [a.1]) (ao := v) (cap := y) (ao2 := (sm z)) (cap2 := 1) (t := 22) (e := 5) (bytes := 1) (nog rfl _) rfl (by kernel_rfl) rfl (by kernel_rfl) (by kernel_rfl) (by kernel_rfl) rfl (Src.row X 0 rfl (RepAll.one (T := t8) (x := a.1) rfl)) bF ?_; intro o p cu bH cv aD aE
   have N : Mem B [] w0 Z0 ((.row z [y8 a.1] 5) :: (.row b1 (e68B a.2) 68) :: (.own t8 5 o p (d ++ [a.1])) :: Rr) V bH := aE
   refine s1 aD 5 (.slice o (d ++ [a.1]).length p) ?_; intro cw aF
   apply aA
   refine sqH ?_; intro bI aG
   refine bt aF N 4 [] [] [(27, pt b1 3), (28, y8 a.1)] ?_; intro cx aH
   obtain ⟨bJ, aI⟩ := bG
   refine ck aH 22 #[pt b1 3, y8 a.1] ?_
   obtain ⟨i, bK, O⟩ := hxq aI
   have h := cnextR_fun a.2 a.1 bJ b1 _ _ _ _ _ _ (N.perm (pk 1 rfl)) N.fz; rw [bK] at h; refine h.mono ?_; rintro _ bL ⟨aJ, rfl, aK, hm⟩; refine ⟨_, rfl, ?_⟩; intro cy aL; have aM := hm
   replace k := k.mono aK
   have A : Mem B [] w0 Z0 ((.row b1 (e68B i.2.2) 68) :: (.row z [y8 a.1] 5) :: (.own t8 5 o p (d ++ [a.1])) :: Rr) aJ bL := aM
   refine bt aL A 5 [] [] [(7, y8 i.1), (8, .bool i.2.1)] ?_; intro cz aN
   apply aG
   refine sqB aN A [] [] [(32, .bool i.2.1)] ?_; intro cA H
   refine cd H (t := i.2.1) (by kernel_rfl) (fun Y => ?_) (fun Y => ?_)
   · -- yes
    have bM := O.1 Y
    refine s_ (sqH ?_); intro bN aO
    refine s1 H 33 (pt b1 0) ?_; intro cB aP
    obtain ⟨bO, aQ⟩ := bM
    refine ck aP 44 #[pt b1 0] ?_
    obtain ⟨f, bP, P⟩ := hxq aQ
    have h := rbit_fun i.2.2 bO b1 _ _ _ _ _ _ A A.fz; rw [bP] at h; refine h.mono ?_; rintro _ bQ ⟨aR, rfl, aS, hm⟩; refine ⟨_, rfl, ?_⟩; intro cC aT; have aU := hm
    replace k := k.mono aS
    have u : Mem B [] w0 Z0 ((.row b1 (e68B f.2) 68) :: (.row z [y8 a.1] 5) :: (.own t8 5 o p (d ++ [a.1])) :: Rr) aR bQ := aU
    refine s1 aT 9 (y8 f.1) ?_; intro cD aV
    apply aO
    refine sqB aV u [0] [] [(44, .bool ((f.2.Code == 0) && (f.1 != i.1)))] ?_; intro cE I
    refine cd I (t := (f.2.Code == 0) && (f.1 != i.1)) (by kernel_rfl) (fun aa => ?_) (fun aa => ?_)
    · -- yes
     have bR := P.1 aa
     refine rgH ?_; intro bS aW
     refine bt I u 3 [] [] [(47, pt b1 2)] ?_; intro cF ab
     refine sx ab u 0 [str f.2.Row, i6 f.2.At, i6 5, y8 f.2.c.last, i6 f.2.c.n] 2 ?_; intro bT aX
     have Q : Mem B [] w0 Z0 ((.row b1 [str f.2.Row, i6 f.2.At, i6 5, y8 f.2.c.last, i6 f.2.c.n] 68) :: (.row z [y8 a.1] 5) :: (.own t8 5 o p (d ++ [a.1])) :: Rr) aR bT := aX
     apply aW
     refine t_ (rgH ?_); intro bU aY
     refine bt ab Q 4 [] [] [(50, pt b1 3), (51, y8 i.1)] ?_; intro cG aZ
     obtain ⟨bV, a1⟩ := bR
     refine ck aZ 22 #[pt b1 3, y8 i.1] ?_
     obtain ⟨D, bW, a2⟩ := hxq a1
     have h := cnextR_fun (⟨f.2.Row, f.2.At, 5, f.2.c⟩ : Reader) i.1 bV b1 _ _ _ _ _ _ Q Q.fz; rw [bW] at h; refine h.mono ?_; rintro _ bX ⟨a4, rfl, a5, hm⟩; refine ⟨_, rfl, ?_⟩; intro bY a7; have a8 := hm
     replace k := k.mono a5
     have a9 : Mem B [] w0 Z0 ((.row b1 (e68B D.2.2) 68) :: (.row z [y8 a.1] 5) :: (.own t8 5 o p (d ++ [a.1])) :: Rr) a4 bX := a8
     apply aY
     refine j_ (t_ ?_)
     have ba : Fr 61 [] [⟨0, [], pt b1 0⟩, ⟨5, [], .slice o (d ++ [a.1]).length p⟩, ⟨10, [], i6 u1⟩, ⟨11, [], i6 l⟩] bY := a7.reg
     refine rgB ba a9 [] [] [(11, i6 (w64 (l + 1)))] ?_; intro cH bZ
     apply d_
     have b0 := a9.perm ((pk 2 rfl).trans ((List.Perm.refl _).cons _))
     exact ⟨⟨d ++ [a.1], w64 (l + 1), D.2.2, o, p, a4⟩, ⟨a2.1, k⟩, a2.2, (bZ.region (by kernel_rfl) (by kernel_rfl)).anyβ _ (by kernel_rfl), b0.kp⟩
    · -- no
     have b2 := P.2 aa
     refine k_ (rgH ?_); intro b3 bb
     refine bt I u 4 [] [] [(50, pt b1 3), (51, y8 i.1)] ?_; intro cI bc
     obtain ⟨b4, bd⟩ := b2
     refine ck bc 22 #[pt b1 3, y8 i.1] ?_
     obtain ⟨E, b5, be⟩ := hxq bd
     have h := cnextR_fun f.2 i.1 b4 b1 _ _ _ _ _ _ u u.fz; rw [b5] at h; refine h.mono ?_; rintro _ b6 ⟨bf, rfl, bg, hm⟩; refine ⟨_, rfl, ?_⟩; intro cJ bh; have bi := hm
     replace k := k.mono bg
     have bj : Mem B [] w0 Z0 ((.row b1 (e68B E.2.2) 68) :: (.row z [y8 a.1] 5) :: (.own t8 5 o p (d ++ [a.1])) :: Rr) bf b6 := bi
     apply bb
     refine j_ (t_ (rgB bh bj [] [] [(11, i6 (w64 (l + 1)))] ?_)); intro cK b7
     apply d_
     have b8 := bj.perm ((pk 2 rfl).trans ((List.Perm.refl _).cons _))
     exact ⟨⟨d ++ [a.1], w64 (l + 1), E.2.2, o, p, bf⟩, ⟨be.1, k⟩, be.2, (b7.region (by kernel_rfl) (by kernel_rfl)).anyβ _ (by kernel_rfl), b8.kp⟩
   · -- no
    have bk := O.2 Y
    refine l_ (j_ (t_ (rgB H A [] [] [(11, i6 (w64 (l + 1)))] ?_))); intro cL b9
    apply d_
    have ca := A.perm ((pk 2 rfl).trans ((List.Perm.refl _).cons _))
    exact ⟨⟨d ++ [a.1], w64 (l + 1), i.2.2, o, p, aJ⟩, ⟨bk.1, k⟩, bk.2, (b9.region (by kernel_rfl) (by kernel_rfl)).anyβ _ (by kernel_rfl), ca.kp⟩
 · -- no
  have R := L.2 U
  refine x_ (y_ (y_ (z_ (t_ (s_ (sqB F an [1] [] [(58, .bool (m.Code != 0))] ?_)))))); intro cM J
  refine cd J (t := m.Code != 0) (by kernel_rfl) (fun ac => ?_) (fun ac => ?_)
  · -- yes
   have cb := R.1 ac
   refine sqB J an [] [] [(4, str [])] ?_; intro cN cc
   exact r_ (h_ (ra1 cc (str []) ⟨([], m), S, rfl, cb, j, an.kp⟩))
  · -- no
   have ce := R.2 ac
   refine k_ (sqH ?_); intro cf bl
   refine s1 J 59 (.slice v d.length y) ?_; intro cO ad
   refine u_ ad (str (bstr d)) ((by obtain ⟨Z9, cP, cg, ch⟩ := an.lend 0 rfl; exact bstr_op ad (g := []) (e := 5) (ao := v) (cap := y) (xs := d) rfl (by kernel_rfl) (by kernel_rfl) (by kernel_rfl) (by kernel_rfl)  ch cg rfl)) ?_; intro cQ bm
   refine s1 bm 4 (str (bstr d)) ?_; intro cR ci
   apply bl
   exact r_ (ra1 ci (str (bstr d)) ⟨(bstr d, m), S, rfl, ce, j, an.kp⟩)

theorem sput_walk (u0 : List UInt8)  (Z : Fz) (w : World)  (hZ : Z.on w) {K : ((List UInt8) × Int) → Prop} (hp : sput_vc u0 K) : Calls Tryd.prog 13 #[str u0] w fun e w' => ∃ r : (List UInt8) × Int, e = .returned (.tuple #[str r.1, i6 r.2]) ∧ K r ∧ Below w.heap.size w w' := by
 refine enter0 Tryd.func13 rfl rfl (by kernel_rfl) ?_; intro a0 Y; have E := Mem.start w Z hZ
 refine sqB Y E [] [] [] ?_; intro a4 aa
 refine s_ (sqH ?_); intro a8 ab
 refine s1 aa 10 (str u0) ?_; intro a7 ac
 refine fc ac E (bcheck_fun u0 _ _ E.fz) ?_; intro a9 bV ad o
 refine s1 ad 4 (i6 (bcheckS u0)) ?_; intro bW ae
 apply ab
 refine sqB ae o [] [] [(13, .bool ((bcheckS u0) != 0))] ?_; intro bX A
 refine cd A (t := (bcheckS u0) != 0) (by kernel_rfl) (fun L => ?_) (fun L => ?_)
 · -- yes
  have ba := hp.1 L
  refine sqB A o [] [] [(2, str []), (3, i6 (bcheckS u0))] ?_; intro bY bb
  exact r_ (h_ (ra2 bb (.tuple #[str [], i6 (bcheckS u0)]) ⟨([], (bcheckS u0)), rfl, ba, o.below⟩))
 · -- no
  have bc := hp.2 L
  refine k_ (sqB A o [] [] [(5, .slice none 0 0)] ?_); intro bZ af
  refine sqH ?_; intro bd ag
  refine nw af o pb [y8 0, i6 0] 51 ?_; intro f b0 be ah M
  apply ag
  refine s_ (sqB ah M [] [] [(16, i6 (u0.length : Int)), (17, i6 0)] ?_); intro ai aj
  apply b_
  have ak : Fr 43 [] [⟨0, [], str u0⟩, ⟨5, [], .slice none 0 0⟩, ⟨6, [], pt f 0⟩, ⟨16, [], i6 (u0.length : Int)⟩, ⟨17, [], i6 0⟩] ai := aj.reg
  have al : Mem w.heap.size [] w Z [.own t8 5 none 0 ([] : List Int), .row f [y8 0, i6 0] 51] Z be := M.addNil t8 5 (by decide)
  have am : Fr 43 [] [⟨0, [], str u0⟩, ⟨5, [], .slice none ([] : List Int).length 0⟩, ⟨6, [], pt f 0⟩, ⟨16, [], i6 (u0.length : Int)⟩, ⟨17, [], i6 0⟩] ai := ak.reg
  obtain ⟨bf, bg, bh, bi⟩ := bc
  refine lp (ι := (List Int) × Int × Counter × (Option Addr) × Nat × Fz) (fun s => [⟨0, [], str u0⟩, ⟨5, [], .slice s.2.2.2.1 s.1.length s.2.2.2.2.1⟩, ⟨6, [], pt f 0⟩, ⟨16, [], i6 (u0.length : Int)⟩, ⟨17, [], i6 s.2.1⟩]) (fun s => [.own t8 5 s.2.2.2.1 s.2.2.2.2.1 s.1, .row f [y8 s.2.2.1.last, i6 s.2.2.1.n] 51]) (fun s => s.2.2.2.2.2) (fun s => bf s.1 s.2.1 s.2.2.1 ∧ Fz.le Z s.2.2.2.2.2) (fun s => bg s.1 s.2.1 s.2.2.1) ⟨([] : List Int), 0, (⟨0, 0⟩ : Counter), none, 0, Z⟩ ⟨bh, Fz.le.refl _⟩ (by exact am.region (by kernel_rfl) (by kernel_rfl)) (by exact al) ?_
  rintro ⟨c, h, p, u, v, an⟩ ⟨bj, k⟩ bk bl aq ar
  have F := bi c h p bj
  refine sqB aq ar [] [] [(18, .bool (decide (h < (u0.length : Int))))] ?_; intro b2 B
  apply s_
  refine cd B (t := decide (h < (u0.length : Int))) (by kernel_rfl) (fun N => ?_) (fun N => ?_)
  · -- yes
   have bm := F.1 N
   refine k_ (s_ (b_ (sqB B ar [] [] [(7, i6 h)] ?_))); intro b3 av
   refine sqH ?_; intro bn aw
   refine bt av ar 3 [] [] [(20, .slice u c.length v), (21, str u0), (22, i6 h)] ?_; intro b4 ax
   obtain ⟨bo, bp⟩ := bm
   obtain ⟨d, ay⟩ : ∃ q, u0[h.toNat]? = some q := ⟨_, List.getElem?_eq_getElem (by omega)⟩; have bq := bp d ay
   refine si ax .i64 bo.1 ay ?_; intro b5 az
   refine nw az ar (fun b => .slice (sm b) 1 1) [y8 (d.toNat : Int)] 5 ?_; intro C b6 b7 aA O
   obtain ⟨br, bs⟩ := bq
   refine ap aA O 1 (T := t8) (xs := c) (ys := [(d.toNat : Int)]) (ao := u) (cap := v) (ao2 := (sm C)) (cap2 := 1) (t := 22) (e := 5) (bytes := 1) (nog rfl _) rfl (by kernel_rfl) rfl (by kernel_rfl) (by kernel_rfl) (by kernel_rfl) rfl (Src.row O 0 rfl (RepAll.one (T := t8) (x := (d.toNat : Int)) rfl)) br ?_; intro y z b8 bu b9 aB aC
   have G : Mem w.heap.size [] w Z [.row C [y8 (d.toNat : Int)] 5, .own t8 5 y z (c ++ [(d.toNat : Int)]), .row f [y8 p.last, i6 p.n] 51] an bu := aC
   refine s1 aB 5 (.slice y (c ++ [(d.toNat : Int)]).length z) ?_; intro ca aD
   apply aw
   refine sqH ?_; intro bv aE
   refine bt aD G 2 [] [] [(27, str u0), (28, i6 h)] ?_; intro cb aF
   obtain ⟨bw, bx⟩ := bs
   obtain ⟨P, aG⟩ : ∃ q, u0[h.toNat]? = some q := ⟨_, List.getElem?_eq_getElem (by omega)⟩; have bz := bx P aG
   refine si aF .i64 bw.1 aG ?_; intro cc aH
   obtain ⟨bA, aI⟩ := bz
   refine ck aH 22 #[pt f 0, y8 (P.toNat : Int)] ?_
   obtain ⟨a, bB, H⟩ := hxq aI
   have l := cnext_fun p (P.toNat : Int) bA f _ _ _ _ _ _ (G.perm (pk 2 rfl)) G.fz; rw [bB] at l; refine l.mono ?_; rintro _ bC ⟨Q, rfl, aJ, hm⟩; refine ⟨_, rfl, ?_⟩; intro ce aK; have aL := hm
   replace k := k.mono aJ
   have m : Mem w.heap.size [] w Z [.row f [y8 a.2.2.last, i6 a.2.2.n] 51, .row C [y8 (d.toNat : Int)] 5, .own t8 5 y z (c ++ [(d.toNat : Int)])] Q bC := aL
   refine bt aK m 5 [] [] [(8, y8 a.1), (9, .bool a.2.1)] ?_; intro cf aM
   apply aE
   refine sqB aM m [] [] [(33, .bool a.2.1)] ?_; intro cg D
   refine cd D (t := a.2.1) (by kernel_rfl) (fun R => ?_) (fun R => ?_)
   · -- yes
    have bD := H.1 R
    refine sqH ?_; intro bE aN
    refine bt D m 2 [] [] [(34, .slice y (c ++ [(d.toNat : Int)]).length z), (35, y8 a.1)] ?_; intro ch aO
    refine nw aO m (fun b => .slice (sm b) 1 1) [y8 a.1] 5 ?_; intro S ci cj aP U
    obtain ⟨bF, bG⟩ := bD
    refine ap aP U 3 (T := t8) (xs := c ++ [(d.toNat : Int)]) (ys := [a.1]) (ao := y) (cap := z) (ao2 := (sm S)) (cap2 := 1) (t := 22) (e := 5) (bytes := 1) (nog rfl _) rfl (by kernel_rfl) rfl (by kernel_rfl) (by kernel_rfl) (by kernel_rfl) rfl (Src.row U 0 rfl (RepAll.one (T := t8) (x := a.1) rfl)) bF ?_; intro I J cl bH cm aQ aR
    have V : Mem w.heap.size [] w Z [.row S [y8 a.1] 5, .row f [y8 a.2.2.last, i6 a.2.2.n] 51, .row C [y8 (d.toNat : Int)] 5, .own t8 5 I J ((c ++ [(d.toNat : Int)]) ++ [a.1])] Q bH := aR
    refine s1 aQ 5 (.slice I ((c ++ [(d.toNat : Int)]) ++ [a.1]).length J) ?_; intro cn aS
    apply aN
    refine rgH ?_; intro bI aT
    refine s1 aS 38 (y8 a.1) ?_; intro co aU
    obtain ⟨bJ, aV⟩ := bG
    refine ck aU 22 #[pt f 0, y8 a.1] ?_
    obtain ⟨W, bK, aW⟩ := hxq aV
    have l := cnext_fun a.2.2 a.1 bJ f _ _ _ _ _ _ (V.perm (pk 1 rfl)) V.fz; rw [bK] at l; refine l.mono ?_; rintro _ bL ⟨aX, rfl, aY, hm⟩; refine ⟨_, rfl, ?_⟩; intro cp aZ; have a1 := hm
    replace k := k.mono aY
    have a2 : Mem w.heap.size [] w Z [.row f [y8 W.2.2.last, i6 W.2.2.n] 51, .row S [y8 a.1] 5, .row C [y8 (d.toNat : Int)] 5, .own t8 5 I J ((c ++ [(d.toNat : Int)]) ++ [a.1])] aX bL := a1
    apply aT
    refine j_ (t_ (rgB aZ a2 [] [] [(17, i6 (w64 (h + 1)))] ?_)); intro cq bM
    apply d_
    have bN := a2.perm ((pk 3 rfl).trans ((List.Perm.refl _).cons _))
    exact ⟨⟨(c ++ [(d.toNat : Int)]) ++ [a.1], w64 (h + 1), W.2.2, I, J, aX⟩, ⟨aW.1, k⟩, aW.2, (bM.region (by kernel_rfl) (by kernel_rfl)).anyβ _ (by kernel_rfl), bN.kp⟩
   · -- no
    have a3 := H.2 R
    refine l_ (j_ (t_ (rgB D m [] [] [(17, i6 (w64 (h + 1)))] ?_))); intro cr bO
    apply d_
    have bP := m.perm ((pk 2 rfl).trans ((List.Perm.refl _).cons _))
    exact ⟨⟨c ++ [(d.toNat : Int)], w64 (h + 1), a.2.2, y, z, Q⟩, ⟨a3.1, k⟩, a3.2, (bO.region (by kernel_rfl) (by kernel_rfl)).anyβ _ (by kernel_rfl), bP.kp⟩
  · -- no
   have bQ := F.2 N
   refine x_ (y_ (y_ (z_ (t_ (sqH ?_))))); intro bR a5
   refine s1 B 41 (.slice u c.length v) ?_; intro cs X
   refine u_ X (str (bstr c)) ((by obtain ⟨Z9, ct, bS, bT⟩ := ar.lend 0 rfl; exact bstr_op X (g := []) (e := 5) (ao := u) (cap := v) (xs := c) rfl (by kernel_rfl) (by kernel_rfl) (by kernel_rfl) (by kernel_rfl)  bT bS rfl)) ?_; intro cu a6
   refine bt a6 ar 2 [] [] [(2, str (bstr c)), (3, i6 0)] ?_; intro cv bU
   apply a5
   exact r_ (ra2 bU (.tuple #[str (bstr c), i6 0]) ⟨(bstr c, 0), rfl, bQ, ar.below⟩)

theorem bturned_walk (u0 : List UInt8)  (Z : Fz) (w : World) (hg0 : SlR t8 Z (sm 0) 256 u8firstL) (hg1 : SlR t8 Z (sm 1) 32 u8accL) (hZ : Z.on w) {K : ((List UInt8) × Int) → Prop} (hp : bturned_vc u0 K) : Calls Tryd.prog 11 #[str u0] w fun e w' => ∃ r : (List UInt8) × Int, e = .returned (.tuple #[str r.1, i6 r.2]) ∧ K r ∧ Below w.heap.size w w' := by
 refine enter0 Tryd.func11 rfl rfl (by kernel_rfl) ?_; intro A f; have c := Mem.start w Z hZ
 refine sqB f c [] [] [] ?_; intro C g
 refine s_ (sqH ?_); intro p h
 refine s1 g 5 (str u0) ?_; intro D i
 refine fc i c (bcheck_fun u0 _ _ c.fz) ?_; intro E F j a
 refine s1 j 4 (i6 (bcheckS u0)) ?_; intro G k
 apply h
 refine sqB k a [] [] [(8, .bool ((bcheckS u0) != 0))] ?_; intro H b
 refine cd b (t := (bcheckS u0) != 0) (by kernel_rfl) (fun d => ?_) (fun d => ?_)
 · -- yes
  have q := hp.1 d
  refine sqB b a [] [] [(2, str []), (3, i6 (bcheckS u0))] ?_; intro I s
  exact r_ (h_ (ra2 s (.tuple #[str [], i6 (bcheckS u0)]) ⟨([], (bcheckS u0)), rfl, q, a.below⟩))
 · -- no
  have u := hp.2 d
  refine k_ (sqH ?_); intro v l
  refine s1 b 10 (str u0) ?_; intro J m
  obtain ⟨x, y⟩ := u
  refine fc m a (smap_fun u0 x _ _ hg0 hg1 a.fz) ?_; intro L M n o
  refine bt n o 2 [] [] [(2, str (smapS u0)), (3, i6 0)] ?_; intro N z
  apply l
  exact r_ (ra2 z (.tuple #[str (smapS u0), i6 0]) ⟨((smapS u0), 0), rfl, y, o.below⟩)

end Go.Proofs.YtgddhhkpaoboiaaDoor
set_option linter.unusedVariables false
set_option linter.unusedSimpArgs false
set_option linter.defProp false
set_option maxRecDepth 100000
set_option maxHeartbeats 0
namespace Go.Proofs.YtgddhhkpaoboiaaDoor
open Go.Sy Go.RowKit
abbrev e68Cs (X : Reader) : List Value := [str X.Row, i6 X.At, i6 X.Code, y8 X.c.last, i6 X.c.n]
theorem rtake_fun (u0 : Reader) (u1 : Int) (hpre : Rok u0 ∧ u1 ≤ 9223372036854775807) (b1 : Nat) (B : Nat) (w0 : World) (Z0 : Fz) (Rr : List Res) (Z : Fz) (w : World) (hM0 : Mem B [] w0 Z0 ((.row b1 [str u0.Row, i6 u0.At, i6 u0.Code, y8 u0.c.last, i6 u0.c.n] 68) :: Rr) Z w) (hZ : Z.on w) : Calls Tryd.prog 32 #[pt b1 0, i6 u1] w fun e w' => ∃ (Z' : Fz), e = .returned (str (rtakeS u0 u1).1) ∧ Fz.le Z Z' ∧ Mem B [] w0 Z0 ((.row b1 [str (rtakeS u0 u1).2.Row, i6 (rtakeS u0 u1).2.At, i6 (rtakeS u0 u1).2.Code, y8 (rtakeS u0 u1).2.c.last, i6 (rtakeS u0 u1).2.c.n] 68) :: Rr) Z' w' :=
  (rtake_walk u0 u1 b1 B w0 Z0 Rr Z w hM0 hZ (rtake_ok u0 u1 hpre)).mono fun _ _ ⟨r, h0, he, hk, f0, hm⟩ => by subst hk; exact ⟨h0, he, f0, hm⟩

def sput_fun (u0 : List UInt8)  (Z : Fz) (w : World)  (hZ : Z.on w) := f_ (sput_walk u0  Z w  hZ (sput_ok u0))
def bturned_fun (u0 : List UInt8)  (Z : Fz) (w : World) (hg0 : SlR t8 Z (sm 0) 256 u8firstL) (hg1 : SlR t8 Z (sm 1) 32 u8accL) (hZ : Z.on w) := f_ (bturned_walk u0  Z w hg0 hg1 hZ (bturned_ok u0))
theorem stake_walk (u0 : List UInt8) (u1 : Int)  (Z : Fz) (w : World)  (hZ : Z.on w) {K : ((List UInt8) × Int × Int) → Prop} (hp : stake_vc u0 u1 K) : Calls Tryd.prog 23 #[str u0, i6 u1] w fun e w' => ∃ r : (List UInt8) × Int × Int, e = .returned (.tuple #[str r.1, i6 r.2.1, i6 r.2.2]) ∧ K r ∧ Below w.heap.size w w' := by
 refine enter0 Tryd.func23 rfl rfl (by kernel_rfl) ?_; intro a0 A; have l := Mem.start w Z hZ
 refine sqB A l [] [] [] ?_; intro a6 C
 refine s_ (sqH ?_); intro af D
 refine s1 C 10 (str u0) ?_; intro a9 E
 refine fc E l (bcheck_fun u0 _ _ l.fz) ?_; intro aD aE F f
 refine s1 F 7 (i6 (bcheckS u0)) ?_; intro aF G
 apply D
 refine sqB G f [] [] [(13, .bool ((bcheckS u0) != 0))] ?_; intro aG h
 refine cd h (t := (bcheckS u0) != 0) (by kernel_rfl) (fun p => ?_) (fun p => ?_)
 · -- yes
  have ag := hp.1 p
  refine sqB h f [] [] [(4, str []), (5, i6 0), (6, i6 (bcheckS u0))] ?_; intro aH ah
  exact r_ (h_ (ra3 ah (.tuple #[str [], i6 0, i6 (bcheckS u0)]) ⟨([], 0, (bcheckS u0)), rfl, ag, f.below⟩))
 · -- no
  have m := hp.2 p
  refine k_ (s_ (sqB h f [] [] [(20, .bool ((decide (u1 < 0)) || (decide (u1 > 1000))))] ?_)); intro aI i
  refine cd i (t := (decide (u1 < 0)) || (decide (u1 > 1000))) (by kernel_rfl) (fun q => ?_) (fun q => ?_)
  · -- yes
   have ai := m.1 q
   refine sqB i f [] [] [(4, str []), (5, i6 0), (6, i6 3)] ?_; intro aJ aj
   exact r_ (h_ (ra3 aj (.tuple #[str [], i6 0, i6 3]) ⟨([], 0, 3), rfl, ai, f.below⟩))
  · -- no
   have ak := m.2 q
   refine k_ (sqH ?_); intro al H
   refine bt i f 2 [] [] [(22, .agg #[str u0, i6 0, i6 0, y8 0, i6 0])] ?_; intro aK I
   refine nw I f pb [str [], i6 0, i6 0, y8 0, i6 0] 68 ?_; intro d aL aM s J
   refine sx s J 0 [str u0, i6 0, i6 0, y8 0, i6 0] 0 ?_; intro am L
   have u : Mem w.heap.size [] w Z [.row d [str u0, i6 0, i6 0, y8 0, i6 0] 68] Z am := L
   apply H
   refine sqH ?_; intro an M
   refine s1 s 23 (i6 u1) ?_; intro aN N
   obtain ⟨ao, O⟩ := ak
   refine ck N 32 #[pt d 0, i6 u1] ?_
   obtain ⟨a, ap, o⟩ := hxq O
   have v := rtake_fun (⟨u0, 0, 0, (⟨0, 0⟩ : Counter)⟩ : Reader) u1 ao d _ _ _ _ _ _ u u.fz; rw [ap] at v; refine v.mono ?_; rintro _ aq ⟨ar, rfl, au, hm⟩; refine ⟨_, rfl, ?_⟩; intro aO P; have Q := hm
   have j : Mem w.heap.size [] w Z [.row d (e68Cs a.2) 68] ar aq := Q
   refine s1 P 9 (str a.1) ?_; intro aP R
   apply M
   refine s_ (sqB R j [0] [] [(27, .bool (a.2.Code != 0))] ?_); intro S k
   refine cd k (t := a.2.Code != 0) (by kernel_rfl) (fun x => ?_) (fun x => ?_)
   · -- yes
    have av := o.1 x
    have T : Fr 33 [] [⟨8, [], pt d 0⟩] S := k.reg
    refine sqQH mixed (by kernel_rfl) j ?_; intro aw U
    refine q1 T 28 (pt d 2) ?_; intro aQ y
    refine ql_ y 0 2 (i6 a.2.Code) rfl rfl ?_; intro aR V
    refine q1 V 4 (str []) ?_; intro aS W
    refine q1 W 5 (i6 0) ?_; intro aT X
    refine q1 X 6 (i6 a.2.Code) ?_; intro aU ax
    refine qnl (U _ ?_); intro aV ay
    exact r_ (h_ (ra3 ax (.tuple #[str [], i6 0, i6 a.2.Code]) ⟨([], 0, a.2.Code), rfl, av, ay.below⟩))
   · -- no
    have az := o.2 x
    apply k_
    have Y : Fr 33 [] [⟨8, [], pt d 0⟩, ⟨9, [], str a.1⟩] S := k.reg
    refine sqQH mixed (by kernel_rfl) j ?_; intro aA aa
    refine q1 Y 30 (str a.1) ?_; intro aW ab
    refine q1 ab 31 (pt d 1) ?_; intro aX z
    refine ql_ z 0 1 (i6 a.2.At) rfl rfl ?_; intro aY ac
    refine q1 ac 4 (str a.1) ?_; intro aZ ad
    refine q1 ad 5 (i6 a.2.At) ?_; intro a1 ae
    refine q1 ae 6 (i6 0) ?_; intro a2 aB
    refine qnl (aa _ ?_); intro a3 aC
    exact r_ (ra3 aB (.tuple #[str a.1, i6 a.2.At, i6 0]) ⟨(a.1, a.2.At, 0), rfl, az, aC.below⟩)

end Go.Proofs.YtgddhhkpaoboiaaDoor
set_option linter.unusedVariables false
set_option linter.unusedSimpArgs false
set_option linter.defProp false
set_option maxRecDepth 100000
set_option maxHeartbeats 0
namespace Go.Proofs.YtgddhhkpaoboiaaDoor
open Go.Sy Go.RowKit
def stake_fun (u0 : List UInt8) (u1 : Int) (hpre : u1 ≤ 9223372036854775807)  (Z : Fz) (w : World)  (hZ : Z.on w) := f_ (stake_walk u0 u1  Z w  hZ (stake_ok u0 u1 hpre))
theorem stuffed_walk   (Z : Fz) (w : World)  (hZ : Z.on w) {K : Bool → Prop} (hp : stuffed_vc  K) : Calls Tryd.prog 14 #[] w fun e w' => ∃ r : Bool, e = .returned (.bool r) ∧ K r ∧ Below w.heap.size w w' := by
 refine enter0 Tryd.func14 rfl rfl (by kernel_rfl) ?_; intro x d; have a := Mem.start w Z hZ
 refine sqB d a [] [] [] ?_; intro z f
 refine sqH ?_; intro o g
 refine fc f a (sput_fun ([49, 49, 49, 49, 49, 48, 48, 48, 48, 49, 49] : List UInt8) _ _ a.fz) ?_; intro A B h b
 refine bt h b 5 [] [] [(1, str (sputS ([49, 49, 49, 49, 49, 48, 48, 48, 48, 49, 49] : List UInt8)).1), (2, i6 (sputS ([49, 49, 49, 49, 49, 48, 48, 48, 48, 49, 49] : List UInt8)).2)] ?_; intro C i
 apply g
 refine sqH ?_; intro p j
 refine s1 i 11 (str (sputS ([49, 49, 49, 49, 49, 48, 48, 48, 48, 49, 49] : List UInt8)).1) ?_; intro D k
 obtain ⟨q, s⟩ := hp
 refine sa k q ?_; intro E l
 obtain ⟨t, u⟩ := s
 refine fc l b (stake_fun ((sputS ([49, 49, 49, 49, 49, 48, 48, 48, 48, 49, 49] : List UInt8)).1 ++ ([49] : List UInt8)) 11 t _ _ b.fz) ?_; intro F G m c
 refine bt m c 7 [] [] [(3, str (stakeS ((sputS ([49, 49, 49, 49, 49, 48, 48, 48, 48, 49, 49] : List UInt8)).1 ++ ([49] : List UInt8)) 11).1), (4, i6 (stakeS ((sputS ([49, 49, 49, 49, 49, 48, 48, 48, 48, 49, 49] : List UInt8)).1 ++ ([49] : List UInt8)) 11).2.1), (5, i6 (stakeS ((sputS ([49, 49, 49, 49, 49, 48, 48, 48, 48, 49, 49] : List UInt8)).1 ++ ([49] : List UInt8)) 11).2.2)] ?_; intro H n
 apply j
 refine sqB n c [] [60, 64] [(0, .bool ((((((sputS ([49, 49, 49, 49, 49, 48, 48, 48, 48, 49, 49] : List UInt8)).2 == 0) && ((stakeS ((sputS ([49, 49, 49, 49, 49, 48, 48, 48, 48, 49, 49] : List UInt8)).1 ++ ([49] : List UInt8)) 11).2.2 == 0)) && ((sputS ([49, 49, 49, 49, 49, 48, 48, 48, 48, 49, 49] : List UInt8)).1 == ([49, 49, 49, 49, 49, 48, 48, 48, 48, 48, 49, 49, 49] : List UInt8))) && ((stakeS ((sputS ([49, 49, 49, 49, 49, 48, 48, 48, 48, 49, 49] : List UInt8)).1 ++ ([49] : List UInt8)) 11).1 == ([49, 49, 49, 49, 49, 48, 48, 48, 48, 49, 49] : List UInt8))) && ((stakeS ((sputS ([49, 49, 49, 49, 49, 48, 48, 48, 48, 49, 49] : List UInt8)).1 ++ ([49] : List UInt8)) 11).2.1 == 13)))] ?_; intro I v
 exact r_ (ra1 v (.bool ((((((sputS ([49, 49, 49, 49, 49, 48, 48, 48, 48, 49, 49] : List UInt8)).2 == 0) && ((stakeS ((sputS ([49, 49, 49, 49, 49, 48, 48, 48, 48, 49, 49] : List UInt8)).1 ++ ([49] : List UInt8)) 11).2.2 == 0)) && ((sputS ([49, 49, 49, 49, 49, 48, 48, 48, 48, 49, 49] : List UInt8)).1 == ([49, 49, 49, 49, 49, 48, 48, 48, 48, 48, 49, 49, 49] : List UInt8))) && ((stakeS ((sputS ([49, 49, 49, 49, 49, 48, 48, 48, 48, 49, 49] : List UInt8)).1 ++ ([49] : List UInt8)) 11).1 == ([49, 49, 49, 49, 49, 48, 48, 48, 48, 49, 49] : List UInt8))) && ((stakeS ((sputS ([49, 49, 49, 49, 49, 48, 48, 48, 48, 49, 49] : List UInt8)).1 ++ ([49] : List UInt8)) 11).2.1 == 13))) ⟨(((((sputS ([49, 49, 49, 49, 49, 48, 48, 48, 48, 49, 49] : List UInt8)).2 == 0) && ((stakeS ((sputS ([49, 49, 49, 49, 49, 48, 48, 48, 48, 49, 49] : List UInt8)).1 ++ ([49] : List UInt8)) 11).2.2 == 0)) && ((sputS ([49, 49, 49, 49, 49, 48, 48, 48, 48, 49, 49] : List UInt8)).1 == ([49, 49, 49, 49, 49, 48, 48, 48, 48, 48, 49, 49, 49] : List UInt8))) && ((stakeS ((sputS ([49, 49, 49, 49, 49, 48, 48, 48, 48, 49, 49] : List UInt8)).1 ++ ([49] : List UInt8)) 11).1 == ([49, 49, 49, 49, 49, 48, 48, 48, 48, 49, 49] : List UInt8))) && ((stakeS ((sputS ([49, 49, 49, 49, 49, 48, 48, 48, 48, 49, 49] : List UInt8)).1 ++ ([49] : List UInt8)) 11).2.1 == 13), rfl, u, c.below⟩)

end Go.Proofs.YtgddhhkpaoboiaaDoor
set_option linter.unusedVariables false
set_option linter.unusedSimpArgs false
set_option linter.defProp false
set_option maxRecDepth 100000
set_option maxHeartbeats 0
namespace Go.Proofs.YtgddhhkpaoboiaaDoor
open Go.Sy Go.RowKit
def stuffed_fun   (Z : Fz) (w : World)  (hZ : Z.on w) := f_ (stuffed_walk   Z w  hZ (stuffed_ok ))
theorem LSTurned_walk (u0 : List UInt8)  (Z : Fz) (w : World) (hg0 : SlR t8 Z (sm 0) 256 u8firstL) (hg1 : SlR t8 Z (sm 1) 32 u8accL) (hZ : Z.on w) {K : Bool → Prop} (hp : LSTurned_vc u0 K) : Calls Tryd.prog 4 #[str u0] w fun e w' => ∃ r : Bool, e = .returned (.bool r) ∧ K r ∧ Below w.heap.size w w' := by
 refine enter0 Tryd.func4 rfl rfl (by kernel_rfl) ?_; intro U j; have c := Mem.start w Z hZ
 refine sqB j c [] [] [] ?_; intro W k
 refine sqH ?_; intro I l
 refine s1 k 11 (str u0) ?_; intro X m
 refine fc m c (sput_fun u0 _ _ c.fz) ?_; intro Y aa n d
 refine bt n d 5 [] [] [(3, str (sputS u0).1), (4, i6 (sputS u0).2)] ?_; intro ab o
 apply l
 refine s_ (sqH ?_); intro J p
 refine fc o d (stuffed_fun  _ _ d.fz) ?_; intro ac ad q a
 refine bt q a 10 [] [18, 19, 20] [(25, .bool (((sputS u0).2 != 0) || (decide (((sputS u0).1.length : Int) > 1000))))] ?_; intro ae b
 apply p
 refine cd b (t := ((sputS u0).2 != 0) || (decide (((sputS u0).1.length : Int) > 1000))) (by kernel_rfl) (fun h => ?_) (fun h => ?_)
 · -- yes
  have L := hp.1 h
  refine sqH ?_; intro M s
  refine fc b a (stuffed_fun  _ _ a.fz) ?_; intro af ag u N
  refine s1 u 2 (.bool true) ?_; intro ah O
  apply s
  exact r_ (h_ (ra1 O (.bool true) ⟨true, rfl, L, N.below⟩))
 · -- no
  have P := hp.2 h
  refine k_ (sqH ?_); intro Q v
  refine s1 b 28 (str u0) ?_; intro ai x
  refine fc x a (bturned_fun u0 _ _ hg0 hg1 a.fz) ?_; intro aj ak y f
  refine bt y f 5 [] [] [(4, i6 (bturnedS u0).2), (5, str (bturnedS u0).1)] ?_; intro al z
  apply v
  refine sqH ?_; intro R A
  refine s1 z 33 (str (bturnedS u0).1) ?_; intro am B
  refine fc B f (sput_fun (bturnedS u0).1 _ _ f.fz) ?_; intro an ao C g
  refine bt C g 5 [] [] [(6, str (sputS (bturnedS u0).1).1), (7, i6 (sputS (bturnedS u0).1).2)] ?_; intro ap D
  apply A
  refine sqH ?_; intro S E
  refine s1 D 38 (str (sputS u0).1) ?_; intro aq F
  refine fc F g (bturned_fun (sputS u0).1 _ _ hg0 hg1 g.fz) ?_; intro ar au G i
  refine bt G i 5 [] [] [(8, str (bturnedS (sputS u0).1).1), (9, i6 (bturnedS (sputS u0).1).2)] ?_; intro av H
  apply E
  refine sqB H i [] [112] [(2, .bool (((((bturnedS u0).2 == 0) && ((sputS (bturnedS u0).1).2 == 0)) && ((bturnedS (sputS u0).1).2 == 0)) && ((sputS (bturnedS u0).1).1 == (bturnedS (sputS u0).1).1)))] ?_; intro aw T
  exact r_ (ra1 T (.bool (((((bturnedS u0).2 == 0) && ((sputS (bturnedS u0).1).2 == 0)) && ((bturnedS (sputS u0).1).2 == 0)) && ((sputS (bturnedS u0).1).1 == (bturnedS (sputS u0).1).1))) ⟨((((bturnedS u0).2 == 0) && ((sputS (bturnedS u0).1).2 == 0)) && ((bturnedS (sputS u0).1).2 == 0)) && ((sputS (bturnedS u0).1).1 == (bturnedS (sputS u0).1).1), rfl, P, i.below⟩)

end Go.Proofs.YtgddhhkpaoboiaaDoor
