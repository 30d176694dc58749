/- Texts put together (pure ones, or walks made by program). -/
import Derived.Test.YtgddhhkpaoboiaaDoorKb0
import Derived.Test.YtgddhhkpaoboiaaDoorKb1
import Derived.Test.YtgddhhkpaoboiaaDoorRows
import Derived.Shelf.Lay
import Derived.Ground.NamesProg
import Derived.Shelf.Strings.SlTrimAscii
import Derived.Shelf.Strings.Builder1
import Derived.Shelf.Strings.MapGrows
import Derived.Lib.LaidU8T
import Derived.Lib.MapLaws
import Derived.Lib.TrimAscii
namespace Go.Proofs
open Go.Shelf
def Tryd.lays160_ren : Go.Shelf.Ren := ⟨fun | 160 => 24 | 232 => 34 | 231 => 33 | 227 => 35 | 234 => 37 | 233 => 36 | 236 => 39 | 235 => 38 | 228 => 45 | 271 => 47 | 151 => 46 | 197 => 26 | 120 => 51 | 152 => 50 | 260 => 41 | 137 => 52 | 119 => 53 | 224 => 54 | 225 => 55 | 217 => 56 | 266 => 57 | n => n, fun | 9 => 9 | 4 => 4 | 3 => 3 | 5 => 5 | 117 => 73 | 116 => 72 | 0 => 0 | 124 => 76 | 21 => 21 | 105 => 59 | 46 => 56 | 119 => 84 | 139 => 87 | 138 => 86 | n => n, fun | 3 => 0 | 4 => 1 | n => n⟩
theorem Tryd.lays160 : Go.Proofs.Lays.n160 Tryd.prog Tryd.lays160_ren := {
  mixed := by kernel_rfl
  f119 := Tryd.func53.trans (congrArg some (by kernel_rfl))
  f120 := Tryd.func51.trans (congrArg some (by kernel_rfl))
  f137 := Tryd.func52.trans (congrArg some (by kernel_rfl))
  f151 := Tryd.func46.trans (congrArg some (by kernel_rfl))
  f152 := Tryd.func50.trans (congrArg some (by kernel_rfl))
  f160 := Tryd.func24.trans (congrArg some (by kernel_rfl))
  f197 := Tryd.func26.trans (congrArg some (by kernel_rfl))
  f217 := Tryd.func56.trans (congrArg some (by kernel_rfl))
  f224 := Tryd.func54.trans (congrArg some (by kernel_rfl))
  f225 := Tryd.func55.trans (congrArg some (by kernel_rfl))
  f227 := Tryd.func35.trans (congrArg some (by kernel_rfl))
  f228 := Tryd.func45.trans (congrArg some (by kernel_rfl))
  f231 := Tryd.func33.trans (congrArg some (by kernel_rfl))
  f232 := Tryd.func34.trans (congrArg some (by kernel_rfl))
  f233 := Tryd.func36.trans (congrArg some (by kernel_rfl))
  f234 := Tryd.func37.trans (congrArg some (by kernel_rfl))
  f235 := Tryd.func38.trans (congrArg some (by kernel_rfl))
  f236 := Tryd.func39.trans (congrArg some (by kernel_rfl))
  f260 := Tryd.func41.trans (congrArg some (by kernel_rfl))
  f266 := Tryd.func57.trans (congrArg some (by kernel_rfl))
  f271 := Tryd.func47.trans (congrArg some (by kernel_rfl))
  t0 := Tryd.underlying0
  a0 := Tryd.isAgg0
  z0 := Tryd.sizeOf0
  v0 := Tryd.zeroValue0
  t3 := Tryd.underlying3
  a3 := Tryd.isAgg3
  z3 := Tryd.sizeOf3
  v3 := Tryd.zeroValue3
  t4 := Tryd.underlying4
  a4 := Tryd.isAgg4
  z4 := Tryd.sizeOf4
  v4 := Tryd.zeroValue4
  t5 := Tryd.underlying5
  a5 := Tryd.isAgg5
  z5 := Tryd.sizeOf5
  v5 := Tryd.zeroValue5
  t9 := Tryd.underlying9
  a9 := Tryd.isAgg9
  z9 := Tryd.sizeOf9
  v9 := Tryd.zeroValue9
  t21 := Tryd.underlying21
  a21 := Tryd.isAgg21
  z21 := Tryd.sizeOf21
  v21 := Tryd.zeroValue21
  t46 := Tryd.underlying56
  a46 := Tryd.isAgg56
  z46 := Tryd.sizeOf56
  v46 := Tryd.zeroValue56
  t105 := Tryd.underlying59
  a105 := Tryd.isAgg59
  z105 := Tryd.sizeOf59
  v105 := Tryd.zeroValue59
  t116 := Tryd.underlying72
  a116 := Tryd.isAgg72
  z116 := Tryd.sizeOf72
  t117 := Tryd.underlying73
  a117 := Tryd.isAgg73
  z117 := Tryd.sizeOf73
  v117 := Tryd.zeroValue73
  t119 := Tryd.underlying84
  a119 := Tryd.isAgg84
  z119 := Tryd.sizeOf84
  t124 := Tryd.underlying76
  a124 := Tryd.isAgg76
  z124 := Tryd.sizeOf76
  v124 := Tryd.zeroValue76
  t138 := Tryd.underlying86
  a138 := Tryd.isAgg86
  z138 := Tryd.sizeOf86
  v138 := Tryd.zeroValue86
  t139 := Tryd.underlying87
  a139 := Tryd.isAgg87
  z139 := Tryd.sizeOf87
  v139 := Tryd.zeroValue87
  g3 := by kernel_rfl
  g4 := by kernel_rfl }
end Go.Proofs
set_option linter.unusedVariables false
set_option linter.unusedSimpArgs false
set_option linter.defProp false
set_option maxRecDepth 100000
set_option maxHeartbeats 0
namespace Go.Proofs.YtgddhhkpaoboiaaDoor
open Go.Sy Go.RowKit
theorem mixed : Tryd.prog.follows .mixedOrders = true := by kernel_rfl
theorem rdCounter : Rd Tryd.prog 51 tyCounter okCounter := by
  refine ⟨fun enc w fuel cs x h hw => ?_⟩
  have hu : Tryd.prog.underlying 51 = some (.struct _) := Tryd.underlying51
  have hl := rd_len hu h (m := 2) (by kernel_rfl)
  obtain ⟨b, d, e⟩ := rd_field hu h hw 0 rfl (rd_int (P := Tryd.prog) (t := 5) (k := .u8) (by kernel_rfl)) (m := 1) (by kernel_rfl) (off := 0) rfl
  have f : (cs.drop 0).take 1 = [y8 b] := d
  obtain ⟨a, g, i⟩ := rd_field hu h hw 1 rfl (rd_int (P := Tryd.prog) (t := 3) (k := .i64) (by kernel_rfl)) (m := 1) (by kernel_rfl) (off := 1) rfl
  have j : (cs.drop 1).take 1 = [i6 a] := g
  have z : cs.drop 2 = [] := List.drop_eq_nil_of_le (by omega)
  have l : cs.drop 1 = [i6 a] := by rw [show cs.drop 1 = (cs.drop 1).take 1 ++ cs.drop 2 from cut_at cs 1 1, j, z]; rfl
  have c : cs.drop 0 = [y8 b, i6 a] := by rw [show cs.drop 0 = (cs.drop 0).take 1 ++ cs.drop 1 from cut_at cs 0 1, f, l]; rfl
  refine ⟨⟨b, a⟩, ?_, e, i⟩
  rw [List.drop_zero] at c
  exact c

theorem rdReader : Rd Tryd.prog 68 tyReader okReader := by
  refine ⟨fun enc w fuel cs x h hw => ?_⟩
  have hu : Tryd.prog.underlying 68 = some (.struct _) := Tryd.underlying68
  have hl := rd_len hu h (m := 5) (by kernel_rfl)
  obtain ⟨d, f, g⟩ := rd_field hu h hw 0 rfl (rd_str (P := Tryd.prog) (t := 9) (by kernel_rfl)) (m := 1) (by kernel_rfl) (off := 0) rfl
  have i : (cs.drop 0).take 1 = [str d] := f
  obtain ⟨c, j, l⟩ := rd_field hu h hw 1 rfl (rd_int (P := Tryd.prog) (t := 3) (k := .i64) (by kernel_rfl)) (m := 1) (by kernel_rfl) (off := 1) rfl
  have o : (cs.drop 1).take 1 = [i6 c] := j
  obtain ⟨b, p, q⟩ := rd_field hu h hw 2 rfl (rd_int (P := Tryd.prog) (t := 23) (k := .i64) (by kernel_rfl)) (m := 1) (by kernel_rfl) (off := 2) rfl
  have r : (cs.drop 2).take 1 = [i6 b] := p
  obtain ⟨a, s, u⟩ := rd_field hu h hw 3 rfl rdCounter (m := 2) (by kernel_rfl) (off := 3) rfl
  have v : (cs.drop 3).take 2 = [y8 a.last, i6 a.n] := s
  have z : cs.drop 5 = [] := List.drop_eq_nil_of_le (by omega)
  have y : cs.drop 3 = [y8 a.last, i6 a.n] := by rw [show cs.drop 3 = (cs.drop 3).take 2 ++ cs.drop 5 from cut_at cs 3 2, v, z]; rfl
  have A : cs.drop 2 = [i6 b, y8 a.last, i6 a.n] := by rw [show cs.drop 2 = (cs.drop 2).take 1 ++ cs.drop 3 from cut_at cs 2 1, r, y]; rfl
  have B : cs.drop 1 = [i6 c, i6 b, y8 a.last, i6 a.n] := by rw [show cs.drop 1 = (cs.drop 1).take 1 ++ cs.drop 2 from cut_at cs 1 1, o, A]; rfl
  have e : cs.drop 0 = [str d, i6 c, i6 b, y8 a.last, i6 a.n] := by rw [show cs.drop 0 = (cs.drop 0).take 1 ++ cs.drop 1 from cut_at cs 0 1, i, B]; rfl
  refine ⟨⟨d, c, b, a⟩, ?_, g, l, q, u⟩
  rw [List.drop_zero] at e
  exact e

theorem trim_fun (u0 : List UInt8) (u1 : List UInt8) (hpre : u0.length ≤ 9223372036854775807 ∧ u1.length < 4294967281 ∧ u1.all (fun b => decide (b.toNat < 128)) = true) (Z : Fz) (w : World) (hZ : Z.on w) : Calls Tryd.prog 24 #[str u0, str u1] w fun e w' => e = .returned (str (trimS u0 u1)) ∧ Below w.heap.size w w' := by
  have h := Any.strings_Trim_laid Tryd.lays160 (by kernel_rfl) ⟨⟨u0⟩⟩ ⟨⟨u1⟩⟩ w (by show u0.length ≤ _; exact hpre.1) (by show u1.length < _; exact hpre.2.1) (ascii_of_all hpre.2.2)
  exact h

theorem tcl_walk (u0 : Int)  (Z : Fz) (w : World)  (hZ : Z.on w) {K : Int → Prop} (hp : tcl_vc u0 K) : Calls Tryd.prog 21 #[.int .i32 u0] w fun e w' => ∃ r : Int, e = .returned (.int .i32 r) ∧ K r ∧ Below w.heap.size w w' := by
 refine enter0 Tryd.func21 rfl rfl (by kernel_rfl) ?_; intro f b; have a := Mem.start w Z hZ
 refine sqB b a [] [] [] ?_; intro h c
 refine sqB c a [] [] [(2, .int .i32 (w32 (97 - u0)))] ?_; intro i d
 exact r_ (ra1 d (.int .i32 (w32 (97 - u0))) ⟨w32 (97 - u0), rfl, hp, a.below⟩)
def tcl_fun (u0 : Int)  (Z : Fz) (w : World)  (hZ : Z.on w) := f_ (tcl_walk u0  Z w  hZ (tcl_ok u0))
end Go.Proofs.YtgddhhkpaoboiaaDoor
namespace Go.Sy
open Go.Proofs Go.Shelf Go.RowKit
variable {P : Program} {ρ : Ren} {B b : Nat} {w0 : World} {Z : Fz} {w w' : World} {T e : TypeId} {ao : Option Addr} {cap : Nat} {p : Value}
theorem repBytes {Z : Fz} {cells : List Value} {xs : List UInt8} (h : RepAll tyByte Z cells xs) : cells = Lib.byteCells xs := by
  have hl : cells.length = xs.length * 1 := h.1
  apply List.ext_getElem?
  intro i
  unfold Lib.byteCells
  rw [List.getElem?_map]
  rcases Nat.lt_or_ge i xs.length with hi | hi
  · have hx : xs[i]? = some xs[i] := List.getElem?_eq_getElem hi
    have hr : ((cells.drop (i * 1)).take 1) = [.int .u8 (xs[i].toNat : Int)] := h.2 i _ hx
    rw [hx, Nat.mul_one] at *
    have := congrArg (fun l => l[0]?) hr
    simpa using this
  · rw [List.getElem?_eq_none (by omega), List.getElem?_eq_none hi]
    rfl
theorem bytesRep (Z : Fz) (xs : List UInt8) : RepAll tyByte Z (Lib.byteCells xs) xs := by
  refine ⟨by simp [Lib.byteCells, tyByte], fun i x hx => ?_⟩
  show ((Lib.byteCells xs).drop (i * 1)).take 1 = [.int .u8 (x.toNat : Int)]
  have hi := (List.getElem?_eq_some_iff.1 hx).1
  unfold Lib.byteCells
  rw [Nat.mul_one, List.drop_eq_getElem_cons (by simpa using hi)]
  have hx2 : xs[i] = x := (List.getElem?_eq_some_iff.1 hx).2
  simp [hx2]
/-- The memory of a call that has one builder and nothing else of its own. -/
abbrev BldR (b : Nat) (p : Value) (T e : TypeId) (ao : Option Addr) (cap : Nat) (xs : List UInt8) : List Res := [.row b [p, .slice ao xs.length cap] T, .own tyByte e ao cap xs]
theorem bld_is {xs : List UInt8} (hM : Mem B [] w0 Z (BldR b p T e ao cap xs) Z w) (hp : p = .pointer none ∨ p = .pointer (some ⟨b, 0, none⟩)) : Lib.IsBuilder T e B b (Lib.byteCells xs) w := by
  have h1 := hM.res (.row b [p, .slice ao xs.length cap] T) (by simp)
  have h2 := hM.res (.own tyByte e ao cap xs) (by simp)
  obtain ⟨_, _, cells, ho, hr⟩ := h2
  have hc := repBytes hr
  subst hc
  have hl : (Lib.byteCells xs).length = xs.length := Lib.byteCells_length xs
  have hB : B ≤ b := h1.1.elim id (by simp)
  have hn : (Value.slice ao xs.length cap).ownBlock ≠ some b := by
    have hnd := (List.pairwise_cons.1 hM.nd).1 (.own tyByte e ao cap xs) (by simp) b rfl
    cases ao with
    | none => simp [Value.ownBlock]
    | some ad => simpa [Value.ownBlock, Res.foot] using hnd
  have hA : Lib.BuilderAt T e B b p (Lib.byteCells xs) w := ⟨hB, _, h1.2, by rw [hl]; exact ho, hn⟩
  rcases hp with rfl | rfl
  · exact .inl hA
  · exact .inr hA
theorem bld_back {R : List Res} {ys : List UInt8} (hM : Mem B [] w0 Z R Z w) (hZB : ∀ k o, Z k = some o → k < B) (hA : Lib.BuilderAt T e B b (.pointer (some ⟨b, 0, none⟩)) (Lib.byteCells ys) w') (hb : Below B w w') (hl : ys.length ≤ lim) :
    ∃ ao cap, Mem B [] w0 Z (BldR b (.pointer (some ⟨b, 0, none⟩)) T e ao cap ys) Z w' := by
  obtain ⟨hBb, v, hv, ho, hne⟩ := hA
  rw [Lib.byteCells_length] at ho
  have hshape : ∃ ao cap, v = .slice ao ys.length cap := by
    rcases ho.2 with ⟨e1, e2⟩ | ⟨g, c, cur, e1, _⟩
    · exact ⟨none, 0, by rw [e1, e2]⟩
    · exact ⟨_, c, e1⟩
  obtain ⟨ao, cap, rfl⟩ := hshape
  have hsz := hb.size
  have hbase : B ≤ w'.heap.size := Nat.le_trans hM.base hsz
  have hfb : ∀ k, (Res.own tyByte e ao cap ys).foot = some k → B ≤ k ∧ k ≠ b := by
    intro k hk
    cases ao with
    | none => simp [Res.foot] at hk
    | some ad =>
      simp only [Res.foot, Option.map_some, Option.some.injEq] at hk
      subst hk
      refine ⟨(World.ownsRow.lt ho ad.block rfl).1, fun hc => hne ?_⟩
      rw [← hc]
      rfl
  refine ⟨ao, cap, ⟨hM.kept.os ▸ hb.os, hM.kept.tape ▸ hb.tape, hM.kept.output ▸ hb.output, Nat.le_trans hM.kept.size hsz, fun k hk hU => (hb.block k hk).trans (hM.kept.block k hk hU)⟩, hbase, ?_, ?_, fun k o hk => by rw [hb.block k (hZB k o hk)]; exact hM.fz k o hk, hM.ext, ?_⟩
  · intro r hr
    rcases List.mem_cons.1 hr with rfl | hr
    · exact ⟨.inl hBb, hv⟩
    · rcases List.mem_cons.1 hr with rfl | hr
      · exact ⟨Nat.one_pos, hl, _, ho, bytesRep Z ys⟩
      · cases hr
  · refine List.Pairwise.cons (fun s hs k hk hc => ?_) (List.Pairwise.cons (by simp) List.Pairwise.nil)
    simp only [List.mem_cons, List.not_mem_nil, or_false] at hs
    subst hs
    have hkb : k = b := by simpa [Res.foot, eq_comm] using hk
    exact (hfb k hc).2 hkb
  · intro r hr k hk
    have hBk : B ≤ k := by
      rcases List.mem_cons.1 hr with rfl | hr
      · have : k = b := by simpa [Res.foot, eq_comm] using hk
        omega
      · rcases List.mem_cons.1 hr with rfl | hr
        · exact (hfb k hk).1
        · cases hr
    cases hz : Z k with
    | none => rfl
    | some o => have := hZB k o hz; omega
theorem Mem.bldNil (hM : Mem B [] w0 Z [.row b [p, .slice none 0 0] T] Z w) (e : TypeId) : Mem B [] w0 Z (BldR b p T e none 0 []) Z w :=
  ((hM.addNil tyByte e Nat.one_pos).perm (List.Perm.swap _ _ _))
theorem bld_write (L : Lays.n166 P ρ) (X : Builder.Extra P ρ) {xs s : List UInt8} (hM : Mem B [] w0 Z (BldR b p (ρ.t 72) (ρ.t 5) ao cap xs) Z w) (hZB : ∀ k o, Z k = some o → k < B) (hp : p = .pointer none ∨ p = .pointer (some ⟨b, 0, none⟩)) (hl : xs.length + s.length ≤ 140737488355328) :
    Calls P (ρ.f 166) #[.pointer (some ⟨b, 0, none⟩), str s] w fun e w' => ∃ ao' cap', e = .returned (.tuple #[.int .i64 (s.length : Int), .nilIface]) ∧ Mem B [] w0 Z (BldR b (.pointer (some ⟨b, 0, none⟩)) (ρ.t 72) (ρ.t 5) ao' cap' (xs ++ s)) Z w' := by
  refine (Any.Builder_WriteString L X B b _ ⟨⟨s⟩⟩ w (bld_is hM hp) (by rw [Lib.byteCells_length]; exact hl) hM.base).mono fun e1 w1 ⟨he, hA, hb⟩ => ?_
  have e2 : Lib.byteCells xs ++ Lib.strCells ⟨⟨s⟩⟩ = Lib.byteCells (xs ++ s) := by simp [Lib.byteCells, Lib.strCells]
  rw [e2] at hA
  obtain ⟨ao', cap', h⟩ := bld_back hM hZB hA hb (by rw [List.length_append]; exact hl)
  exact ⟨ao', cap', he, h⟩
theorem bld_string (L : Lays.n169 P ρ) (X : Builder.Extra P ρ) {xs : List UInt8} (hM : Mem B [] w0 Z (BldR b p (ρ.t 72) (ρ.t 5) ao cap xs) Z w) (hZB : ∀ k o, Z k = some o → k < B) (hp : p = .pointer none ∨ p = .pointer (some ⟨b, 0, none⟩)) :
    Calls P (ρ.f 169) #[.pointer (some ⟨b, 0, none⟩)] w fun e w' => e = .returned (str xs) ∧ Mem B [] w0 Z [] Z w' := by
  refine (Any.Builder_String_any L X B b xs w (bld_is hM hp) hM.base).mono fun e1 w1 ⟨he, hb⟩ => ⟨he, ?_⟩
  exact ⟨⟨hM.kept.os ▸ hb.os, hM.kept.tape ▸ hb.tape, hM.kept.output ▸ hb.output, Nat.le_trans hM.kept.size hb.size, fun k hk hU => (hb.block k hk).trans (hM.kept.block k hk hU)⟩, Nat.le_trans hM.base hb.size, by simp, List.Pairwise.nil, fun k o hk => by rw [hb.block k (hZB k o hk)]; exact hM.fz k o hk, hM.ext, by simp⟩
theorem zB {w : World} (h : Z.on w) : ∀ k o, Z k = some o → k < w.heap.size := fun k o hk => lt_of_get (h k o hk)
end Go.Sy
namespace Go.Proofs
open Go.Shelf
def Tryd.lays166_ren : Go.Shelf.Ren := ⟨fun | 166 => 18 | 240 => 25 | 276 => 40 | n => n, fun | 37 => 22 | 70 => 40 | 72 => 42 | 75 => 44 | 80 => 47 | 164 => 77 | n => n, fun n => n⟩
theorem Tryd.lays166 : Lays.n166 Tryd.prog Tryd.lays166_ren := {
  mixed := by kernel_rfl
  f166 := Tryd.func18.trans (congrArg some (by kernel_rfl))
  f240 := Tryd.func25.trans (congrArg some (by kernel_rfl))
  f276 := Tryd.func40.trans (congrArg some (by kernel_rfl))
  t0 := Tryd.underlying0
  a0 := Tryd.isAgg0
  z0 := Tryd.sizeOf0
  v0 := Tryd.zeroValue0
  t3 := Tryd.underlying3
  a3 := Tryd.isAgg3
  z3 := Tryd.sizeOf3
  v3 := Tryd.zeroValue3
  t4 := Tryd.underlying4
  a4 := Tryd.isAgg4
  z4 := Tryd.sizeOf4
  v4 := Tryd.zeroValue4
  t9 := Tryd.underlying9
  a9 := Tryd.isAgg9
  z9 := Tryd.sizeOf9
  v9 := Tryd.zeroValue9
  t20 := Tryd.underlying20
  a20 := Tryd.isAgg20
  z20 := Tryd.sizeOf20
  v20 := Tryd.zeroValue20
  t37 := Tryd.underlying22
  a37 := Tryd.isAgg22
  z37 := Tryd.sizeOf22
  v37 := Tryd.zeroValue22
  t70 := Tryd.underlying40
  a70 := Tryd.isAgg40
  z70 := Tryd.sizeOf40
  v70 := Tryd.zeroValue40
  t72 := Tryd.underlying42
  a72 := Tryd.isAgg42
  z72 := Tryd.sizeOf42
  v72 := Tryd.zeroValue42
  t75 := Tryd.underlying44
  a75 := Tryd.isAgg44
  z75 := Tryd.sizeOf44
  v75 := Tryd.zeroValue44
  t164 := Tryd.underlying77
  a164 := Tryd.isAgg77
  z164 := Tryd.sizeOf77
  v164 := Tryd.zeroValue77 }
theorem Tryd.lays166X : Builder.Extra Tryd.prog Tryd.lays166_ren := {
  sizeBuilder := by kernel_rfl
  liesBuilder := by kernel_rfl
  t5 := by kernel_rfl
  a5 := fun w => by kernel_rfl
  z5 := fun w => by kernel_rfl
  v5 := fun w => by kernel_rfl
  infoByte := by kernel_rfl
  cellsByte := by kernel_rfl
  sizeByte := by kernel_rfl
  neB5 := by decide }

def Tryd.lays169_ren : Go.Shelf.Ren := ⟨fun | 169 => 19 | n => n, fun | 37 => 22 | 70 => 40 | 72 => 42 | 127 => 58 | n => n, fun n => n⟩
theorem Tryd.lays169 : Lays.n169 Tryd.prog Tryd.lays169_ren := {
  mixed := by kernel_rfl
  f169 := Tryd.func19.trans (congrArg some (by kernel_rfl))
  t0 := Tryd.underlying0
  a0 := Tryd.isAgg0
  z0 := Tryd.sizeOf0
  v0 := Tryd.zeroValue0
  t3 := Tryd.underlying3
  a3 := Tryd.isAgg3
  z3 := Tryd.sizeOf3
  v3 := Tryd.zeroValue3
  t9 := Tryd.underlying9
  a9 := Tryd.isAgg9
  z9 := Tryd.sizeOf9
  v9 := Tryd.zeroValue9
  t37 := Tryd.underlying22
  a37 := Tryd.isAgg22
  z37 := Tryd.sizeOf22
  v37 := Tryd.zeroValue22
  t70 := Tryd.underlying40
  a70 := Tryd.isAgg40
  z70 := Tryd.sizeOf40
  v70 := Tryd.zeroValue40
  t72 := Tryd.underlying42
  a72 := Tryd.isAgg42
  z72 := Tryd.sizeOf42
  v72 := Tryd.zeroValue42
  t127 := Tryd.underlying58
  a127 := Tryd.isAgg58
  z127 := Tryd.sizeOf58
  v127 := Tryd.zeroValue58 }
theorem Tryd.lays169X : Builder.Extra Tryd.prog Tryd.lays169_ren := {
  sizeBuilder := by kernel_rfl
  liesBuilder := by kernel_rfl
  t5 := by kernel_rfl
  a5 := fun w => by kernel_rfl
  z5 := fun w => by kernel_rfl
  v5 := fun w => by kernel_rfl
  infoByte := by kernel_rfl
  cellsByte := by kernel_rfl
  sizeByte := by kernel_rfl
  neB5 := by decide }

end Go.Proofs
set_option linter.unusedVariables false
set_option linter.unusedSimpArgs false
set_option maxRecDepth 100000
set_option maxHeartbeats 0
namespace Go.Proofs.YtgddhhkpaoboiaaDoor
open Go.Sy Go.RowKit
theorem bread_walk (u0 : List UInt8)  (Z : Fz) (w : World)  (hZ : Z.on w) {K : Int → Prop} (hp : bread_vc u0 K) : Calls Tryd.prog 17 #[str u0] w fun e w' => ∃ r : Int, e = .returned (y6 r) ∧ K r ∧ Below w.heap.size w w' := by
 refine enter0 Tryd.func17 rfl rfl (by kernel_rfl) ?_; intro U j; have d := Mem.start w Z hZ
 refine sqB j d [] [] [] ?_; intro W k
 refine sqB k d [] [] [(3, y6 0)] ?_; intro X l
 refine s_ (sqB l d [] [] [(6, i6 (u0.length : Int)), (7, i6 0)] ?_); intro m n
 apply b_
 have o : Fr 20 [] [⟨0, [], str u0⟩, ⟨3, [], y6 0⟩, ⟨6, [], i6 (u0.length : Int)⟩, ⟨7, [], i6 0⟩] m := n.reg
 obtain ⟨F, G, H, I⟩ := hp
 refine lp (ι := Int × Int) (fun s => [⟨0, [], str u0⟩, ⟨3, [], y6 s.1⟩, ⟨6, [], i6 (u0.length : Int)⟩, ⟨7, [], i6 s.2⟩]) (fun s => []) (fun s => Z) (fun s => F s.1 s.2) (fun s => G s.1 s.2) ⟨0, 0⟩ H (by exact o.region (by kernel_rfl) (by kernel_rfl)) (by exact d) ?_
 rintro ⟨b, a⟩ J L M u v
 have g := I b a J
 refine sqB u v [] [] [(8, .bool (decide (a < (u0.length : Int))))] ?_; intro Y f
 apply s_
 refine cd f (t := decide (a < (u0.length : Int))) (by kernel_rfl) (fun h => ?_) (fun h => ?_)
 · -- yes
  have N := g.1 h
  refine k_ (s_ (b_ (sqB f v [] [] [(4, i6 a)] ?_))); intro aa y
  refine rgH ?_; intro O z
  refine bt y v 4 [] [] [(11, y6 (bShl .u64 b 1)), (12, str u0), (13, i6 a)] ?_; intro ab A
  obtain ⟨P, Q⟩ := N
  obtain ⟨i, B⟩ : ∃ q, u0[a.toNat]? = some q := ⟨_, List.getElem?_eq_getElem (by omega)⟩; have C := Q i B
  refine si A .i64 P.1 B ?_; intro ac D
  refine bt D v 4 [] [] [(3, y6 (bOr .u64 (bShl .u64 b 1) (wu64 (w8 ((i.toNat : Int) - 48)))))] ?_; intro ad E
  apply z
  refine j_ (t_ (rgB E v [] [] [(7, i6 (w64 (a + 1)))] ?_)); intro ae R
  exact d_ ⟨⟨bOr .u64 (bShl .u64 b 1) (wu64 (w8 ((i.toNat : Int) - 48))), w64 (a + 1)⟩, C.1, C.2, (R.region (by kernel_rfl) (by kernel_rfl)).anyβ _ (by kernel_rfl), v.kp⟩
 · -- no
  have S := g.2 h
  refine x_ (y_ (y_ (z_ (t_ (sqB f v [] [] [(2, y6 b)] ?_))))); intro af T
  exact r_ (ra1 T (y6 b) ⟨b, rfl, S, v.below⟩)

theorem bwrite_walk (u0 : Int) (u1 : Int)  (Z : Fz) (w : World)  (hZ : Z.on w) {K : (List UInt8) → Prop} (hp : bwrite_vc u0 u1 K) : Calls Tryd.prog 15 #[y6 u0, i6 u1] w fun e w' => ∃ r : (List UInt8), e = .returned (str r) ∧ K r ∧ Below w.heap.size w w' := by
 refine enter0 Tryd.func15 rfl rfl (by kernel_rfl) ?_; intro a0 q; have l := Mem.start w Z hZ
 refine sqB q l [] [] [] ?_; intro a2 v
 refine sqH ?_; intro V x
 refine s1 v 7 (i6 u1) ?_; intro a5 y
 obtain ⟨ax, W⟩ := hp
 refine mks y l (T := t8) u1 u1 (k := .i64) (k' := .i64) (e := 5) (bytes := 1) (zs := [y8 0]) (z := 0) (by simp only [lim]; omega) (nog rfl _) rfl (by kernel_rfl) rfl (by kernel_rfl) (by kernel_rfl) (by kernel_rfl) (by kernel_rfl) rfl ?_; intro b ay X A B
 have m : Mem w.heap.size [] w Z [.own t8 5 (sm b) u1.toNat (List.replicate u1.toNat (0 : Int))] Z X := B
 refine s1 A 5 (.slice (sm b) (List.replicate u1.toNat (0 : Int)).length u1.toNat) ?_; intro az C
 apply x
 refine s_ (sqB C m [] [] [(9, i6 u1), (10, i6 0)] ?_); intro D E
 apply b_
 have F : Fr 28 [] [⟨0, [], y6 u0⟩, ⟨1, [], i6 u1⟩, ⟨5, [], .slice (sm b) (List.replicate u1.toNat (0 : Int)).length u1.toNat⟩, ⟨9, [], i6 u1⟩, ⟨10, [], i6 0⟩] D := E.reg
 obtain ⟨Y, aa, ab, ac⟩ := W
 refine lp (ι := Int × Int × (List Int)) (fun s => [⟨0, [], y6 s.1⟩, ⟨1, [], i6 u1⟩, ⟨5, [], .slice (sm b) s.2.2.length u1.toNat⟩, ⟨9, [], i6 u1⟩, ⟨10, [], i6 s.2.1⟩]) (fun s => [.own t8 5 (sm b) u1.toNat s.2.2]) (fun s => Z) (fun s => Y s.1 s.2.1 s.2.2) (fun s => aa s.1 s.2.1 s.2.2) ⟨u0, 0, (List.replicate u1.toNat (0 : Int))⟩ ab (by exact F.region (by kernel_rfl) (by kernel_rfl)) (by exact m) ?_
 rintro ⟨d, a, c⟩ ad ae af H I
 have i := ac d a c ad
 refine sqB H I [] [] [(11, .bool (decide (a < u1)))] ?_; intro aA h
 apply s_
 refine cd h (t := decide (a < u1)) (by kernel_rfl) (fun n => ?_) (fun n => ?_)
 · -- yes
  have ag := i.1 n
  refine k_ (s_ (b_ (sqB h I [] [] [(6, i6 a)] ?_))); intro aB L
  refine sqH ?_; intro ah M
  refine bt L I 9 [] [] [(13, .slice (sm b) c.length u1.toNat), (17, i6 (w64 ((w64 (u1 - 1)) - a))), (21, y8 (w8 (48 + (w8 (bAnd .u64 d 1)))))] ?_; intro aC N
  obtain ⟨ai, O⟩ := ag
  refine ixo N I 0 (T := t8) (xs := c) (w64 ((w64 (u1 - 1)) - a)) ai (k := .i64) (e := 5) (bytes := 1) (nog rfl _) rfl (by kernel_rfl) rfl (by kernel_rfl) (by kernel_rfl) rfl (by kernel_rfl) ?_; intro aj ak al j
  obtain rfl : b = aj := by simpa using al
  refine so j I 0 (T := t8) (xs := c) (w64 ((w64 (u1 - 1)) - a)).toNat (w8 (48 + (w8 (bAnd .u64 d 1)))) (u := y8 (w8 (48 + (w8 (bAnd .u64 d 1))))) (nog rfl _) rfl rfl (by kernel_rfl) rfl (by kernel_rfl) rfl (by kernel_rfl) (by first | omega | (simp only [List.length_set] at *; omega)) rfl ?_; intro am P
  have Q : Fr 28 [] [⟨0, [], y6 d⟩, ⟨1, [], i6 u1⟩, ⟨5, [], .slice (sm b) (c.set (w64 ((w64 (u1 - 1)) - a)).toNat (w8 (48 + (w8 (bAnd .u64 d 1))))).length u1.toNat⟩, ⟨6, [], i6 a⟩, ⟨9, [], i6 u1⟩, ⟨10, [], i6 a⟩, ⟨11, [], .bool (decide (a < u1))⟩, ⟨13, [], .slice (sm b) (c.set (w64 ((w64 (u1 - 1)) - a)).toNat (w8 (48 + (w8 (bAnd .u64 d 1))))).length u1.toNat⟩, ⟨17, [], i6 (w64 ((w64 (u1 - 1)) - a))⟩, ⟨21, [], y8 (w8 (48 + (w8 (bAnd .u64 d 1))))⟩, ⟨22, [], .pointer (some ⟨b, (w64 ((w64 (u1 - 1)) - a)).toNat * 1, none⟩)⟩] ak := by (try simp only [List.length_set] at j); (try simp only [List.length_set]); exact j.region (by kernel_rfl) (by kernel_rfl)
  have o : Mem w.heap.size [] w Z [.own t8 5 (sm b) u1.toNat (c.set (w64 ((w64 (u1 - 1)) - a)).toNat (w8 (48 + (w8 (bAnd .u64 d 1)))))] Z am := P
  apply M
  refine rgB Q o [] [] [(0, y6 (bShr .u64 d 1))] ?_; intro aD R
  refine j_ (t_ (rgB R o [] [] [(10, i6 (w64 (a + 1)))] ?_)); intro aE an
  exact d_ ⟨⟨bShr .u64 d 1, w64 (a + 1), c.set (w64 ((w64 (u1 - 1)) - a)).toNat (w8 (48 + (w8 (bAnd .u64 d 1))))⟩, O.1, O.2, (an.region (by kernel_rfl) (by kernel_rfl)).anyβ _ (by kernel_rfl), o.kp⟩
 · -- no
  have ap := i.2 n
  refine x_ (y_ (y_ (z_ (t_ (sqH ?_))))); intro aq S
  refine s1 h 26 (.slice (sm b) c.length u1.toNat) ?_; intro aF p
  refine u_ p (str (bstr c)) ((by obtain ⟨Z9, aG, ar, au⟩ := I.lend 0 rfl; exact bstr_op p (g := []) (e := 5) (ao := (sm b)) (cap := u1.toNat) (xs := c) rfl (by kernel_rfl) (by kernel_rfl) (by kernel_rfl) (by kernel_rfl)  au ar rfl)) ?_; intro aH U
  refine s1 U 4 (str (bstr c)) ?_; intro aI av
  apply S
  exact r_ (ra1 av (str (bstr c)) ⟨bstr c, rfl, ap, I.below⟩)

theorem bcheck_walk (u0 : List UInt8)  (Z : Fz) (w : World)  (hZ : Z.on w) {K : Int → Prop} (hp : bcheck_vc u0 K) : Calls Tryd.prog 16 #[str u0] w fun e w' => ∃ r : Int, e = .returned (i6 r) ∧ K r ∧ Below w.heap.size w w' := by
 refine enter0 Tryd.func16 rfl rfl (by kernel_rfl) ?_; intro z i; have a := Mem.start w Z hZ
 refine sqB i a [] [] [] ?_; intro B j
 refine s_ (sqB j a [] [] [(5, .bool (decide ((u0.length : Int) > 1000)))] ?_); intro C b
 refine cd b (t := decide ((u0.length : Int) > 1000)) (by kernel_rfl) (fun g => ?_) (fun g => ?_)
 · -- yes
  have n := hp.1 g
  refine sqB b a [] [] [(2, i6 2)] ?_; intro D o
  exact r_ (h_ (ra1 o (i6 2) ⟨2, rfl, n, a.below⟩))
 · -- no
  have p := hp.2 g
  refine k_ (s_ (sqH ?_)); intro q k
  refine s1 b 6 (str u0) ?_; intro E l
  obtain ⟨s, d⟩ := p
  refine fc l a (trim_fun u0 ([48, 49] : List UInt8) s _ _ a.fz) ?_; intro F G m f
  refine sc m .neq (.bool ((trimS u0 ([48, 49] : List UInt8)) != ([] : List UInt8))) ?_; intro H c
  apply k
  refine cd c (t := (trimS u0 ([48, 49] : List UInt8)) != ([] : List UInt8)) (by kernel_rfl) (fun h => ?_) (fun h => ?_)
  · -- yes
   have u := d.1 h
   refine sqB c f [] [] [(2, i6 4)] ?_; intro I v
   exact r_ (h_ (ra1 v (i6 4) ⟨4, rfl, u, f.below⟩))
  · -- no
   have x := d.2 h
   refine k_ (sqB c f [] [] [(2, i6 0)] ?_); intro J y
   exact r_ (ra1 y (i6 0) ⟨0, rfl, x, f.below⟩)

end Go.Proofs.YtgddhhkpaoboiaaDoor
namespace Go.Proofs
open Go.Shelf
def Tryd.lays230_ren : Go.Shelf.Ren := ⟨fun | 118 => 27 | 165 => 28 | 166 => 18 | 167 => 31 | 168 => 29 | 169 => 19 | 197 => 26 | 230 => 20 | 240 => 25 | 241 => 42 | 242 => 43 | 260 => 41 | 270 => 30 | 276 => 40 | 277 => 48 | 278 => 49 | n => n, fun | 37 => 22 | 46 => 56 | 51 => 89 | 70 => 40 | 72 => 42 | 75 => 44 | 76 => 45 | 80 => 47 | 105 => 59 | 107 => 49 | 119 => 84 | 127 => 58 | 138 => 86 | 139 => 87 | 164 => 77 | n => n, fun | 3 => 0 | 4 => 1 | n => n⟩
theorem Tryd.lays230 : Lays.n230 Tryd.prog Tryd.lays230_ren := {
  mixed := by kernel_rfl
  f118 := Tryd.func27.trans (congrArg some (by kernel_rfl))
  f165 := Tryd.func28.trans (congrArg some (by kernel_rfl))
  f166 := Tryd.func18.trans (congrArg some (by kernel_rfl))
  f167 := Tryd.func31.trans (congrArg some (by kernel_rfl))
  f168 := Tryd.func29.trans (congrArg some (by kernel_rfl))
  f169 := Tryd.func19.trans (congrArg some (by kernel_rfl))
  f197 := Tryd.func26.trans (congrArg some (by kernel_rfl))
  f230 := Tryd.func20.trans (congrArg some (by kernel_rfl))
  f240 := Tryd.func25.trans (congrArg some (by kernel_rfl))
  f241 := Tryd.func42.trans (congrArg some (by kernel_rfl))
  f242 := Tryd.func43.trans (congrArg some (by kernel_rfl))
  f260 := Tryd.func41.trans (congrArg some (by kernel_rfl))
  f270 := Tryd.func30.trans (congrArg some (by kernel_rfl))
  f276 := Tryd.func40.trans (congrArg some (by kernel_rfl))
  f277 := Tryd.func48.trans (congrArg some (by kernel_rfl))
  f278 := Tryd.func49.trans (congrArg some (by kernel_rfl))
  t0 := Tryd.underlying0
  a0 := Tryd.isAgg0
  z0 := Tryd.sizeOf0
  v0 := Tryd.zeroValue0
  t3 := Tryd.underlying3
  a3 := Tryd.isAgg3
  z3 := Tryd.sizeOf3
  v3 := Tryd.zeroValue3
  t4 := Tryd.underlying4
  a4 := Tryd.isAgg4
  z4 := Tryd.sizeOf4
  v4 := Tryd.zeroValue4
  t5 := Tryd.underlying5
  a5 := Tryd.isAgg5
  z5 := Tryd.sizeOf5
  v5 := Tryd.zeroValue5
  t9 := Tryd.underlying9
  a9 := Tryd.isAgg9
  z9 := Tryd.sizeOf9
  v9 := Tryd.zeroValue9
  t20 := Tryd.underlying20
  a20 := Tryd.isAgg20
  z20 := Tryd.sizeOf20
  v20 := Tryd.zeroValue20
  t21 := Tryd.underlying21
  a21 := Tryd.isAgg21
  z21 := Tryd.sizeOf21
  v21 := Tryd.zeroValue21
  t37 := Tryd.underlying22
  a37 := Tryd.isAgg22
  z37 := Tryd.sizeOf22
  v37 := Tryd.zeroValue22
  t46 := Tryd.underlying56
  a46 := Tryd.isAgg56
  z46 := Tryd.sizeOf56
  v46 := Tryd.zeroValue56
  t51 := Tryd.underlying89
  a51 := Tryd.isAgg89
  z51 := Tryd.sizeOf89
  v51 := Tryd.zeroValue89
  t70 := Tryd.underlying40
  a70 := Tryd.isAgg40
  z70 := Tryd.sizeOf40
  v70 := Tryd.zeroValue40
  t72 := Tryd.underlying42
  a72 := Tryd.isAgg42
  z72 := Tryd.sizeOf42
  v72 := Tryd.zeroValue42
  t75 := Tryd.underlying44
  a75 := Tryd.isAgg44
  z75 := Tryd.sizeOf44
  v75 := Tryd.zeroValue44
  t76 := Tryd.underlying45
  a76 := Tryd.isAgg45
  z76 := Tryd.sizeOf45
  v76 := Tryd.zeroValue45
  t105 := Tryd.underlying59
  a105 := Tryd.isAgg59
  z105 := Tryd.sizeOf59
  v105 := Tryd.zeroValue59
  t107 := Tryd.underlying49
  a107 := Tryd.isAgg49
  z107 := Tryd.sizeOf49
  v107 := Tryd.zeroValue49
  t119 := Tryd.underlying84
  a119 := Tryd.isAgg84
  z119 := Tryd.sizeOf84
  t127 := Tryd.underlying58
  a127 := Tryd.isAgg58
  z127 := Tryd.sizeOf58
  v127 := Tryd.zeroValue58
  t138 := Tryd.underlying86
  a138 := Tryd.isAgg86
  z138 := Tryd.sizeOf86
  v138 := Tryd.zeroValue86
  t139 := Tryd.underlying87
  a139 := Tryd.isAgg87
  z139 := Tryd.sizeOf87
  v139 := Tryd.zeroValue87
  t164 := Tryd.underlying77
  a164 := Tryd.isAgg77
  z164 := Tryd.sizeOf77
  v164 := Tryd.zeroValue77
  g3 := by kernel_rfl
  g4 := by kernel_rfl }
theorem Tryd.lays230X : Builder.Extra Tryd.prog Tryd.lays230_ren := {
  sizeBuilder := by kernel_rfl
  liesBuilder := by kernel_rfl
  t5 := by kernel_rfl
  a5 := fun w => by kernel_rfl
  z5 := fun w => by kernel_rfl
  v5 := fun w => by kernel_rfl
  infoByte := by kernel_rfl
  cellsByte := by kernel_rfl
  sizeByte := by kernel_rfl
  neB5 := by decide }
theorem Tryd.lays230_u8T : U8Types Tryd.prog Tryd.lays230_ren := ⟨by kernel_rfl, by kernel_rfl, by kernel_rfl, by kernel_rfl⟩
theorem Tryd.lays230_u8X : U8Extra Tryd.prog Tryd.lays230_ren := ⟨by kernel_rfl, by kernel_rfl, by kernel_rfl, by kernel_rfl, by kernel_rfl, by kernel_rfl, by kernel_rfl⟩

end Go.Proofs
set_option linter.unusedVariables false
set_option linter.unusedSimpArgs false
set_option linter.defProp false
set_option maxRecDepth 100000
set_option maxHeartbeats 0
namespace Go.Proofs.YtgddhhkpaoboiaaDoor
open Go.Sy Go.RowKit
def bread_fun (u0 : List UInt8) (hpre : u0.length ≤ 62 ∧ isRow u0 = true)  (Z : Fz) (w : World)  (hZ : Z.on w) := f_ (bread_walk u0  Z w  hZ (bread_ok u0 hpre))
def bwrite_fun (u0 : Int) (u1 : Int) (hpre : 0 ≤ u1 ∧ u1 ≤ 64 ∧ 0 ≤ u0 ∧ u0 < 2 ^ 62)  (Z : Fz) (w : World)  (hZ : Z.on w) := f_ (bwrite_walk u0 u1  Z w  hZ (bwrite_ok u0 u1 hpre))
def bcheck_fun (u0 : List UInt8)  (Z : Fz) (w : World)  (hZ : Z.on w) := f_ (bcheck_walk u0  Z w  hZ (bcheck_ok u0))
open Go.Lib in
def u8firstL : List Int := (List.range 256).map fun c => (firstT c : Int)
open Go.Lib in
def u8accL : List Int := ((List.range 16).map fun i => [(accLo i : Int), (accHi i : Int)]).flatten
theorem sl_of_cells {W : World} {zs : List Int} {g : Nat} (hne : zs ≠ []) (hz : zs.length ≤ 1000000) (h : ∀ i x, zs[i]? = some x → W.cell? ⟨g, i, none⟩ = some (.int .u8 x)) : SlR (tyInt .u8) (Zw W) (some ⟨g, 0, none⟩) zs.length zs := by
  -- by hand
  refine ⟨Nat.le_refl _, by simp only [maxLen]; omega, by simp only [lim]; omega, by simp, fun _ => ?_⟩
  obtain ⟨z, hz0⟩ : ∃ z, zs[0]? = some z := by cases zs with
    | nil => exact absurd rfl hne
    | cons z zs => exact ⟨z, rfl⟩
  have h0 := h 0 z hz0
  unfold World.cell? at h0
  cases hh : W.heap[g]? with
  | none => simp [hh] at h0
  | some ob =>
    cases ob with
    | cells arr e fr =>
      refine ⟨g, 0, rfl, arr, e, fr, by simpa [Zw] using hh, fun i x hx => ⟨[.int .u8 x], rfl, fun j u hu => ?_⟩⟩
      have hc := h i x hx
      cases j with
      | zero =>
        cases hu
        have h1 : (0 + i * (tyInt .u8).n + 0) = i := by simp [tyInt]
        rw [h1]
        simpa [World.cell?, hh] using hc
      | succ j => simp at hu
    | _ => simp [hh] at h0
theorem cells_of_sl {W : World} {Z : Fz} {zs : List Int} {g n : Nat} (h : SlR (tyInt .u8) Z (some ⟨g, 0, none⟩) n zs) (hZ : Z.on W) {i : Nat} {x : Int} (hx : zs[i]? = some x) : W.cell? ⟨g, i, none⟩ = some (.int .u8 x) := by
  -- by hand
  have hne : zs ≠ [] := fun e => by rw [e] at hx; cases hx
  obtain ⟨b, off, hb, arr, e, fr, hz, hc⟩ := h.at_ hne
  cases hb
  obtain ⟨cs, hcs, hk⟩ := hc i x hx
  have hcs : cs = [.int .u8 x] := hcs
  subst hcs
  have h1 := hk 0 _ rfl
  have h2 : (0 + i * (tyInt .u8).n + 0) = i := by simp [tyInt]
  rw [h2] at h1
  simp [World.cell?, hZ _ _ hz, h1]
theorem u8first_sl {W : World} {g h : Nat} (hU : Lib.Utf8Tabs g h W) : SlR (tyInt .u8) (Zw W) (some ⟨g, 0, none⟩) 256 u8firstL := by
  -- by hand
  have e : u8firstL.length = 256 := by simp [u8firstL]
  have k := sl_of_cells (W := W) (g := g) (zs := u8firstL) (fun c => by rw [c] at e; cases e) (by rw [e]; decide) (fun i x hx => by
    unfold u8firstL at hx
    rw [List.getElem?_map] at hx
    obtain ⟨c, hc, rfl⟩ := Option.map_eq_some_iff.1 hx
    obtain ⟨hl, hc2⟩ := List.getElem?_eq_some_iff.1 hc
    rw [List.length_range] at hl
    rw [List.getElem_range] at hc2
    subst hc2
    exact hU.1 _ hl)
  rw [e] at k
  exact k
theorem u8acc_at (i : Nat) (hi : i < 16) : u8accL[2 * i]? = some (Lib.accLo i : Int) ∧ u8accL[2 * i + 1]? = some (Lib.accHi i : Int) := by
  -- by hand
  have : ∀ i : Fin 16, u8accL[2 * i.1]? = some (Lib.accLo i.1 : Int) ∧ u8accL[2 * i.1 + 1]? = some (Lib.accHi i.1 : Int) := by decide +kernel
  exact this ⟨i, hi⟩
theorem u8acc_sl {W : World} {g h : Nat} (hU : Lib.Utf8Tabs g h W) : SlR (tyInt .u8) (Zw W) (some ⟨h, 0, none⟩) 32 u8accL := by
  -- by hand
  have e : u8accL.length = 32 := by decide +kernel
  have k := sl_of_cells (W := W) (g := h) (zs := u8accL) (fun c => by rw [c] at e; cases e) (by rw [e]; decide) (fun i x hx => by
    have hl : i < 32 := by
      have := (List.getElem?_eq_some_iff.1 hx).1
      omega
    obtain ⟨h1, h2⟩ := hU.2 (i / 2) (by omega)
    obtain ⟨k1, k2⟩ := u8acc_at (i / 2) (by omega)
    rcases Nat.mod_two_eq_zero_or_one i with hm | hm
    · have e : 2 * (i / 2) = i := by omega
      rw [e] at h1 k1
      rw [k1] at hx; cases hx; exact h1
    · have e : 2 * (i / 2) + 1 = i := by omega
      rw [e] at h2 k2
      rw [k2] at hx; cases hx; exact h2)
  rw [e] at k
  exact k
theorem u8tabs_of {W : World} {Z : Fz} {g h : Nat} (hg : SlR (tyInt .u8) Z (some ⟨g, 0, none⟩) 256 u8firstL) (hh : SlR (tyInt .u8) Z (some ⟨h, 0, none⟩) 32 u8accL) (hZ : Z.on W) : Lib.Utf8Tabs g h W := by
  -- by hand
  refine ⟨fun c hc => cells_of_sl hg hZ ?_, fun i hi => ⟨cells_of_sl hh hZ (u8acc_at i hi).1, cells_of_sl hh hZ (u8acc_at i hi).2⟩⟩
  unfold u8firstL
  rw [List.getElem?_map, List.getElem?_range hc]; rfl
theorem mapD_row (f : Int → Int) (hf : ∀ c : UInt8, isBit c = true → f (c.toNat : Int) = ((flip c).toNat : Int)) : ∀ u : List UInt8, isRow u = true → Lib.mapD f u = u.map flip
  -- by hand
  | [], _ => rfl
  | c :: r, h => by
    have h2 := h
    rw [isRow_cons, Bool.and_eq_true] at h2
    have hc := isBit_or h2.1
    have hlt : c.toNat < 128 := by rcases hc with rfl | rfl <;> decide
    rw [Lib.mapD_step f (c :: r) (by simp), Lib.decodeL_ascii c r hlt]
    have hr : (c :: r).drop 1 = r := rfl
    rw [hr, mapD_row f hf r h2.2, hf c h2.1]
    have he : Lib.encodeRune ((flip c).toNat : Int) = [flip c] := by
      have : flip c = 48 ∨ flip c = 49 := isBit_or (isBit_flip c)
      rcases this with e | e <;> rw [e] <;> decide
    rw [if_pos (by omega), he]
    rfl
theorem smap_fun (u1 : List UInt8) (hpre : isRow u1 = true ∧ u1.length ≤ 1000000)  (Z : Fz) (w : World) (hg0 : SlR (tyInt .u8) Z (some ⟨0, 0, none⟩) 256 u8firstL) (hg1 : SlR (tyInt .u8) Z (some ⟨1, 0, none⟩) 32 u8accL) (hZ : Z.on w) : Calls Tryd.prog 20 #[.func (.func 21) #[] #[], str u1] w fun e w' => e = .returned (str (smapS u1)) ∧ Below w.heap.size w w' := by
  -- by hand
  have hb : ∀ x : Int, -2147483648 ≤ tcl x ∧ tcl x ≤ 2147483647 := fun x => by unfold tcl; exact w32_in _
  have h := Any.strings_Map_grows Tryd.lays230 Tryd.lays230X 21 #[] (fun _ _ => by kernel_rfl) (fun x => tcl x) ⟨⟨u1⟩⟩ w (by show u1.length < _; omega)
    (fun W x _ _ => tcl_fun (x : Int) (fun _ => none) W (fun _ _ h => by cases h)) (fun x _ => hb x) (u8tabs_of hg0 hg1 hZ)
  have e : Lib.mapD (fun x => tcl x) u1 = smapS u1 := mapD_row _ (fun c hc => tcl_bit c hc) u1 hpre.1
  refine h.mono fun e1 w1 h1 => ?_
  obtain ⟨h1, h2⟩ := h1
  have e2 : (⟨⟨u1⟩⟩ : ByteArray).data.toList = u1 := rfl
  rw [e2, e] at h1
  exact ⟨h1, h2⟩

theorem bnumber_walk (u0 : List UInt8)  (Z : Fz) (w : World)  (hZ : Z.on w) {K : (Int × Int) → Prop} (hp : bnumber_vc u0 K) : Calls Tryd.prog 6 #[str u0] w fun e w' => ∃ r : Int × Int, e = .returned (.tuple #[i6 r.1, i6 r.2]) ∧ K r ∧ Below w.heap.size w w' := by
 refine enter0 Tryd.func6 rfl rfl (by kernel_rfl) ?_; intro F i; have d := Mem.start w Z hZ
 refine sqB i d [] [] [] ?_; intro H j
 refine s_ (sqH ?_); intro u k
 refine s1 j 5 (str u0) ?_; intro I l
 refine fc l d (bcheck_fun u0 _ _ d.fz) ?_; intro J L m a
 refine s1 m 4 (i6 (bcheckS u0)) ?_; intro M n
 apply k
 refine sqB n a [] [] [(8, .bool ((bcheckS u0) != 0))] ?_; intro N b
 refine c_ b hp (fun _ v => ?_) fun _ f => ?_
 ·
  refine sqB b a [] [] [(2, i6 0), (3, i6 (bcheckS u0))] ?_; intro O x
  exact r_ (h_ (ra2 x (.tuple #[i6 0, i6 (bcheckS u0)]) ⟨(0, (bcheckS u0)), rfl, v, a.below⟩))
 ·
  refine k_ (s_ (sqB b a [] [] [(12, .bool (decide ((u0.length : Int) > 62)))] ?_)); intro P c
  refine c_ c f (fun _ y => ?_) fun _ A => ?_
  ·
   refine sqB c a [] [] [(2, i6 0), (3, i6 2)] ?_; intro Q z
   exact r_ (h_ (ra2 z (.tuple #[i6 0, i6 2]) ⟨(0, 2), rfl, y, a.below⟩))
  ·
   refine k_ (sqH ?_); intro B o
   refine s1 c 13 (str u0) ?_; intro R p
   obtain ⟨C, D⟩ := A
   refine fc p a (bread_fun u0 C _ _ a.fz) ?_; intro S T q s
   refine bt q s 3 [] [] [(2, i6 (w64 (breadS u0))), (3, i6 0)] ?_; intro U E
   apply o
   exact r_ (ra2 E (.tuple #[i6 (w64 (breadS u0)), i6 0]) ⟨(w64 (breadS u0), 0), rfl, D, s.below⟩)

theorem brow_walk (u0 : Int) (u1 : Int)  (Z : Fz) (w : World)  (hZ : Z.on w) {K : ((List UInt8) × Int) → Prop} (hp : brow_vc u0 u1 K) : Calls Tryd.prog 5 #[i6 u0, i6 u1] w fun e w' => ∃ r : (List UInt8) × Int, e = .returned (.tuple #[str r.1, i6 r.2]) ∧ K r ∧ Below w.heap.size w w' := by
 refine enter0 Tryd.func5 rfl rfl (by kernel_rfl) ?_; intro S q; have a := Mem.start w Z hZ
 refine sqB q a [] [] [] ?_; intro U s
 refine s_ (sqB s a [] [] [(11, .bool ((decide (u1 < 0)) || (decide (u1 > 62))))] ?_); intro V b
 refine c_ b hp (fun _ E => ?_) fun _ i => ?_
 ·
  refine sqB b a [] [] [(4, str []), (5, i6 2)] ?_; intro W F
  exact r_ (h_ (ra2 F (.tuple #[str [], i6 2]) ⟨([], 2), rfl, E, a.below⟩))
 ·
  refine k_ (s_ (sqH ?_)); intro u j
  refine bt b a 3 [] [] [(14, .bool (decide (u0 < 0)))] ?_; intro X k
  refine e_ i (fun f G => ?_) fun f I => ?_
  ·
   have x := k.reval (d := 14) (c := []) (v := .bool (decide (u0 < 0))) (by kernel_rfl) (.bool true) (by rw [f])
   refine bt x a 5 [] [15, 16, 17, 18, 19] [(19, .bool true)] ?_; intro Y o
   apply j
   refine cdT o (by kernel_rfl) ?_
   refine sqB o a [] [] [(4, str []), (5, i6 3)] ?_; intro aa H
   exact r_ (h_ (ra2 H (.tuple #[str [], i6 3]) ⟨([], 3), rfl, G, a.below⟩))
  ·
   have y := k.reval (d := 14) (c := []) (v := .bool (decide (u0 < 0))) (by kernel_rfl) (.bool false) (by rw [f])
   refine bt y a 2 [] [15, 16] [(15, i6 u0), (16, i6 u1)] ?_; intro ab l
   obtain ⟨J, m⟩ := I
   refine v_ l (i6 (bShr .i64 u0 u1)) (wK l false) (shr_run l (g := []) (k' := .i64) rfl (by kernel_rfl) (by kernel_rfl) J rfl) ?_; intro ac z
   refine bt z a 2 [] [18, 19] [(19, .bool ((bShr .i64 u0 u1) != 0))] ?_; intro ad h
   apply j
   refine c_ h m (fun _ L => ?_) fun _ N => ?_
   ·
    refine sqB h a [] [] [(4, str []), (5, i6 3)] ?_; intro ae M
    exact r_ (h_ (ra2 M (.tuple #[str [], i6 3]) ⟨([], 3), rfl, L, a.below⟩))
   ·
    refine k_ (sqH ?_); intro O A
    refine bt h a 3 [] [] [(21, y6 (wu64 u0)), (22, i6 u1)] ?_; intro af B
    obtain ⟨P, Q⟩ := N
    refine fc B a (bwrite_fun (wu64 u0) u1 P _ _ a.fz) ?_; intro ag ah C D
    refine bt C D 2 [] [] [(4, str (bwriteS (wu64 u0) u1)), (5, i6 0)] ?_; intro ai R
    apply A
    exact r_ (ra2 R (.tuple #[str (bwriteS (wu64 u0) u1), i6 0]) ⟨((bwriteS (wu64 u0) u1), 0), rfl, Q, D.below⟩)

theorem bof_walk (u0 : List Int) (ao1 : Option Addr) (cap2 : Nat) (Z : Fz) (w : World) (hs3 : SlR t8 Z ao1 cap2 u0) (hZ : Z.on w) {K : ((List UInt8) × Int) → Prop} (hp : bof_vc u0 K) : Calls Tryd.prog 8 #[.slice ao1 u0.length cap2] w fun e w' => ∃ r : (List UInt8) × Int, e = .returned (.tuple #[str r.1, i6 r.2]) ∧ K r ∧ Below w.heap.size w w' := by
 refine enter0 Tryd.func8 rfl rfl (by kernel_rfl) ?_; intro a0 u; have g := Mem.start w Z hZ
 have hzB := Go.Sy.zB hZ
 have j := hp (hs3.small)
 refine sqB u g [] [] [] ?_; intro a8 v
 refine s_ (sqB v g [] [] [(9, .bool (decide ((u0.length : Int) > 125)))] ?_); intro aM h
 refine c_ h j (fun _ ae => ?_) fun _ ag => ?_
 ·
  refine sqB h g [] [] [(2, str []), (3, i6 2)] ?_; intro aN af
  exact r_ (h_ (ra2 af (.tuple #[str [], i6 2]) ⟨([], 2), rfl, ae, g.below⟩))
 ·
  refine k_ (sqH ?_); intro ah x
  refine nw h g pb [.pointer none, .slice none 0 0] 42 ?_; intro a aO ai y n
  apply x
  refine s_ (sqB y n [] [] [(10, .slice ao1 u0.length cap2), (11, i6 (u0.length : Int)), (12, i6 0)] ?_); intro z A
  apply b_
  have B : Fr 22 [] [⟨4, [], pt a 0⟩, ⟨10, [], .slice ao1 u0.length cap2⟩, ⟨11, [], i6 (u0.length : Int)⟩, ⟨12, [], i6 0⟩] z := A.reg
  have C : Mem w.heap.size [] w Z [.row a [.pointer none, .slice none ([] : List UInt8).length 0] 42, .own tyByte 5 none 0 ([] : List UInt8)] Z ai := n.bldNil 5
  have D : Fr 22 [] [⟨4, [], pt a 0⟩, ⟨10, [], .slice ao1 u0.length cap2⟩, ⟨11, [], i6 (u0.length : Int)⟩, ⟨12, [], i6 0⟩] z := B.reg
  obtain ⟨aj, ak, al, am⟩ := ag
  refine lp (ι := Int × (List UInt8) × Value × (Option Addr) × Nat) (fun s => [⟨4, [], pt a 0⟩, ⟨10, [], .slice ao1 u0.length cap2⟩, ⟨11, [], i6 (u0.length : Int)⟩, ⟨12, [], i6 s.1⟩]) (fun s => [.row a [s.2.2.1, .slice s.2.2.2.1 s.2.1.length s.2.2.2.2] 42, .own tyByte 5 s.2.2.2.1 s.2.2.2.2 s.2.1]) (fun s => Z) (fun s => aj s.1 s.2.1 ∧ (s.2.2.1 = .pointer none ∨ s.2.2.1 = pt a 0)) (fun s => ak s.1 s.2.1) ⟨0, ([] : List UInt8), (.pointer none), none, 0⟩ ⟨al, (.inl rfl)⟩ (by exact D.reg) (by exact C) ?_
  rintro ⟨f, c, an, E, F⟩ ⟨ao, G⟩ ap aq H I
  have l := am f c ao
  refine sqB H I [] [] [(13, .bool (decide (f < (u0.length : Int))))] ?_; intro aP i
  refine s_ (c_ i l (fun _ ar => ?_) fun _ aH => ?_)
  ·
   refine k_ (s_ (b_ (sqH ?_))); intro au L
   obtain ⟨av, M⟩ := ar
   refine ix_ i hs3 f av .i64 5 1 ?_; intro aQ aR aw b aS ax ay az N
   have aA := M b ax
   obtain rfl : aw = ([y8 b] : List Value) := az
   refine z1 N I 15 ay 0 (y8 b) rfl ?_; intro aT O
   refine s1 O 6 (y8 b) ?_; intro aU P
   apply L
   refine rgH ?_; intro aB Q
   refine bt P I 2 [] [] [(17, y6 (wu64 b))] ?_; intro aV R
   obtain ⟨aC, aD⟩ := aA
   refine fc R I (bwrite_fun (wu64 b) 8 aC _ _ I.fz) ?_; intro aW aX S U
   obtain ⟨aE, V⟩ := aD
   refine ck S 18 #[pt a 0, str (bwriteS (wu64 b) 8)] ?_
   refine (Go.Sy.bld_write Tryd.lays166 Tryd.lays166X U hzB G aE).mono ?_; rintro _ aF ⟨p, q, rfl, hm⟩; refine ⟨_, rfl, ?_⟩; intro aY W; have X := hm
   have Y : Mem w.heap.size [] w Z [.row a [pt a 0, .slice p (c ++ (bwriteS (wu64 b) 8)).length q] 42, .own tyByte 5 p q (c ++ (bwriteS (wu64 b) 8))] Z aF := X
   apply Q
   refine j_ (t_ (rgB W Y [] [] [(12, i6 (w64 (f + 1)))] ?_)); intro aZ aG
   exact d_ ⟨⟨w64 (f + 1), c ++ (bwriteS (wu64 b) 8), (pt a 0), p, q⟩, ⟨V.1, (.inr rfl)⟩, V.2, (aG.reg).anyβ _ (by kernel_rfl), Y.kp⟩
  ·
   refine x_ (y_ (y_ (z_ (t_ (sqH ?_))))); intro aI aa
   refine ck i 19 #[pt a 0] ?_
   refine (Go.Sy.bld_string Tryd.lays169 Tryd.lays169X I hzB G).mono ?_; rintro _ aJ ⟨rfl, hm⟩; refine ⟨_, rfl, ?_⟩; intro a1 ab; have ac := hm
   have ad : Mem w.heap.size [] w Z [] Z aJ := ac
   refine bt ab ad 2 [] [] [(2, str c), (3, i6 0)] ?_; intro a2 aK
   apply aa
   exact r_ (ra2 aK (.tuple #[str c, i6 0]) ⟨(c, 0), rfl, aH, ad.below⟩)

theorem bbytes_walk (u0 : List UInt8)  (Z : Fz) (w : World)  (hZ : Z.on w) {K : ((List Int) × Int) → Prop} (hp : bbytes_vc u0 K) : Calls Tryd.prog 9 #[str u0] w fun e w' => ∃ (r : (List Int) × Int) (ao1001 : Option Addr) (cap1002 : Nat) (Z' : Fz), e = .returned (.tuple #[.slice ao1001 r.1.length cap1002, i6 r.2]) ∧ K r ∧ Mem w.heap.size [] w Z [.own t8 5 ao1001 cap1002 r.1] Z' w' := by
 refine enter0 Tryd.func9 rfl rfl (by kernel_rfl) ?_; intro a0 E; have n := Mem.start w Z hZ
 refine sqB E n [] [] [] ?_; intro a4 F
 refine s_ (sqH ?_); intro ai G
 refine s1 F 6 (str u0) ?_; intro a7 H
 refine fc H n (bcheck_fun u0 _ _ n.fz) ?_; intro a9 q I c
 refine s1 I 4 (i6 (bcheckS u0)) ?_; intro aR J
 apply G
 refine sqB J c [] [] [(9, .bool ((bcheckS u0) != 0))] ?_; intro aS j
 refine c_ j hp (fun _ aj => ?_) fun _ o => ?_
 ·
  refine sqB j c [] [] [(2, .slice none 0 0), (3, i6 (bcheckS u0))] ?_; intro aT ak
  refine r_ (h_ ?_)
  have al : Mem w.heap.size [] w Z [.own t8 5 none 0 ([] : List Int)] Z q := c.addNil t8 5 (by decide)
  exact ra2 ak (.tuple #[.slice none ([] : List Int).length 0, i6 (bcheckS u0)]) ⟨(([] : List Int), (bcheckS u0)), none, 0, Z, rfl, aj, al.kp⟩
 ·
  refine k_ (s_ (sqB j c [] [] [(14, .bool (((u0.length : Int).tmod 8) != 0))] ?_)); intro aU l
  refine c_ l o (fun _ am => ?_) fun _ ar => ?_
  ·
   refine sqB l c [] [] [(2, .slice none 0 0), (3, i6 4)] ?_; intro aV an
   refine r_ (h_ ?_)
   have aq : Mem w.heap.size [] w Z [.own t8 5 none 0 ([] : List Int)] Z q := c.addNil t8 5 (by decide)
   exact ra2 an (.tuple #[.slice none ([] : List Int).length 0, i6 4]) ⟨(([] : List Int), 4), none, 0, Z, rfl, am, aq.kp⟩
  ·
   refine k_ (sqB l c [] [] [(5, .slice none 0 0)] ?_); intro L M
   refine s_ (b_ ?_)
   have N : Fr 28 [] [⟨0, [], str u0⟩, ⟨5, [], .slice none 0 0⟩] L := M.reg
   have O : Mem w.heap.size [] w Z [.own t8 5 none 0 ([] : List Int)] Z q := c.addNil t8 5 (by decide)
   have P : Fr 28 [] [⟨0, [], str u0⟩, ⟨5, [], .slice none ([] : List Int).length 0⟩] L := N.reg
   obtain ⟨au, av, aw, ax⟩ := ar
   refine lp (ι := (List UInt8) × (List Int) × (Option Addr) × Nat) (fun s => [⟨0, [], str s.1⟩, ⟨5, [], .slice s.2.2.1 s.2.1.length s.2.2.2⟩]) (fun s => [.own t8 5 s.2.2.1 s.2.2.2 s.2.1]) (fun s => Z) (fun s => au s.1 s.2.1) (fun s => av s.1 s.2.1) ⟨u0, ([] : List Int), none, 0⟩ aw (by exact P.reg) (by exact O) ?_
   rintro ⟨a, d, f, h⟩ ay az aA Q R
   have p := ax a d ay
   refine s_ (sqB Q R [] [] [(17, .bool (decide ((a.length : Int) > 0)))] ?_); intro aW m
   refine c_ m p (fun _ aB => ?_) fun _ aO => ?_
   ·
    refine k_ (b_ (sqH ?_)); intro aC U
    refine bt m R 2 [] [] [(18, .slice f d.length h), (19, str a)] ?_; intro aX z
    obtain ⟨aD, aE⟩ := aB
    refine u_ z (str (a.take (8 : Int).toNat)) (strslH_run z (g := []) (k := .i64) rfl (by kernel_rfl) (by kernel_rfl) (by kernel_rfl) aD rfl) ?_; intro aY V
    obtain ⟨aF, aG⟩ := aE
    refine fc V R (bread_fun (a.take (8 : Int).toNat) aF _ _ R.fz) ?_; intro aZ a1 W X
    refine s1 W 22 (y8 (w8 (breadS (a.take (8 : Int).toNat)))) ?_; intro a2 Y
    refine nw Y X (fun b => .slice (sm b) 1 1) [y8 (w8 (breadS (a.take (8 : Int).toNat)))] 5 ?_; intro aa a3 a5 ab A
    obtain ⟨aH, aI⟩ := aG
    refine ap ab A 1 (T := t8) (xs := d) (ys := [w8 (breadS (a.take (8 : Int).toNat))]) (ao := f) (cap := h) (ao2 := (sm aa)) (cap2 := 1) (t := 22) (e := 5) (bytes := 1) (nog rfl _) rfl (by kernel_rfl) rfl (by kernel_rfl) (by kernel_rfl) (by kernel_rfl) rfl (Src.row A 0 rfl (RepAll.one (T := t8) (x := (w8 (breadS (a.take (8 : Int).toNat)))) rfl)) aH ?_; intro B C a6 aJ a8 ac ad
    have aK : Mem w.heap.size [] w Z [.row aa [y8 (w8 (breadS (a.take (8 : Int).toNat)))] 5, .own t8 5 B C (d ++ [w8 (breadS (a.take (8 : Int).toNat))])] Z aJ := ad
    refine s1 ac 5 (.slice B (d ++ [w8 (breadS (a.take (8 : Int).toNat))]).length C) ?_; intro ba ae
    apply U
    refine rgH ?_; intro aL af
    refine s1 ae 25 (str a) ?_; intro bb D
    obtain ⟨aM, ag⟩ := aI
    refine u_ D (str (a.drop (8 : Int).toNat)) (strslL_run D (g := []) (k := .i64) rfl (by kernel_rfl) (by kernel_rfl) (by kernel_rfl) aM rfl) ?_; intro bc ah
    refine s1 ah 0 (str (a.drop (8 : Int).toNat)) ?_; intro bd aN
    apply af
    exact j_ (d_ ⟨⟨a.drop (8 : Int).toNat, d ++ [w8 (breadS (a.take (8 : Int).toNat))], B, C⟩, ag.1, ag.2, (aN.reg).anyβ _ (by kernel_rfl), aK.kp⟩)
   ·
    refine x_ (y_ (y_ (z_ (t_ (sqB m R [] [] [(2, .slice f d.length h), (3, i6 0)] ?_))))); intro be aP
    exact r_ (ra2 aP (.tuple #[.slice f d.length h, i6 0]) ⟨(d, 0), f, h, Z, rfl, aO, R.kp⟩)

theorem brun_walk (u0 : List UInt8)  (Z : Fz) (w : World)  (hZ : Z.on w) {K : (Int × Int) → Prop} (hp : brun_vc u0 K) : Calls Tryd.prog 12 #[str u0] w fun e w' => ∃ r : Int × Int, e = .returned (.tuple #[i6 r.1, i6 r.2]) ∧ K r ∧ Below w.heap.size w w' := by
 refine enter0 Tryd.func12 rfl rfl (by kernel_rfl) ?_; intro a0 R; have x := Mem.start w Z hZ
 refine sqB R x [] [] [] ?_; intro a4 S
 refine s_ (sqH ?_); intro aO T
 refine s1 S 8 (str u0) ?_; intro a7 U
 refine fc U x (bcheck_fun u0 _ _ x.fz) ?_; intro a9 bh V j
 refine s1 V 4 (i6 (bcheckS u0)) ?_; intro bi W
 apply T
 refine sqB W j [] [] [(11, .bool ((bcheckS u0) != 0))] ?_; intro bj l
 refine c_ l hp (fun _ aP => ?_) fun _ aR => ?_
 ·
  refine sqB l j [] [] [(2, i6 0), (3, i6 (bcheckS u0))] ?_; intro bk aQ
  exact r_ (h_ (ra2 aQ (.tuple #[i6 0, i6 (bcheckS u0)]) ⟨(0, (bcheckS u0)), rfl, aP, j.below⟩))
 ·
  refine k_ (sqB l j [] [] [(5, i6 0), (6, i6 0)] ?_); intro bl X
  refine s_ (sqB X j [] [] [(14, i6 (u0.length : Int)), (15, i6 0)] ?_); intro Y aa
  apply b_
  have ab : Fr 37 [] [⟨0, [], str u0⟩, ⟨5, [], i6 0⟩, ⟨6, [], i6 0⟩, ⟨14, [], i6 (u0.length : Int)⟩, ⟨15, [], i6 0⟩] Y := aa.reg
  obtain ⟨aS, aT, aU, aV⟩ := aR
  refine lp (ι := Int × Int × Int) (fun s => [⟨0, [], str u0⟩, ⟨5, [], i6 s.1⟩, ⟨6, [], i6 s.2.1⟩, ⟨14, [], i6 (u0.length : Int)⟩, ⟨15, [], i6 s.2.2⟩]) (fun s => []) (fun s => Z) (fun s => aS s.1 s.2.1 s.2.2) (fun s => aT s.1 s.2.1 s.2.2) ⟨0, 0, 0⟩ aU (by exact ab.reg) (by exact j) ?_
  rintro ⟨f, g, a⟩ aW aX aY ad ae
  have y := aV f g a aW
  refine sqB ad ae [] [] [(16, .bool (decide (a < (u0.length : Int))))] ?_; intro bm m
  refine s_ (c_ m y (fun _ z => ?_) fun _ be => ?_)
  ·
   refine k_ (s_ (b_ (sqB m ae [] [] [(7, i6 a)] ?_))); intro O ag
   apply s_
   have A : Fr 37 [] [⟨0, [], str u0⟩, ⟨5, [], i6 f⟩, ⟨6, [], i6 g⟩, ⟨7, [], i6 a⟩, ⟨14, [], i6 (u0.length : Int)⟩, ⟨15, [], i6 a⟩] O := ag.reg
   refine e_ z (fun n aZ => ?_) fun n ax => ?_
   ·
    have ah : Fr 37 [] [⟨0, [], str u0⟩, ⟨5, [], i6 f⟩, ⟨6, [], i6 g⟩, ⟨7, [], i6 a⟩, ⟨14, [], i6 (u0.length : Int)⟩, ⟨15, [], i6 a⟩] O := A.reg
    refine sqQH mixed (by kernel_rfl) ae ?_; intro a1 ai
    refine q1 ah 18 (i6 a) ?_; intro bn aj
    refine q1 aj 19 (.bool (decide (a > 0))) ?_; intro bo ak
    have al := ak.reval (d := 19) (c := []) (v := .bool (decide (a > 0))) (by kernel_rfl) (.bool true) (by rw [n])
    refine q1 al 20 (.bool true) ?_; intro bp B
    refine qg_ B true (str u0) ?_; intro bq C
    refine qg_ C true (i6 a) ?_; intro br D
    obtain ⟨a2, a3⟩ := aZ
    obtain ⟨o, am⟩ : ∃ q, u0[a.toNat]? = some q := ⟨_, List.getElem?_eq_getElem (by omega)⟩; have a5 := a3 o am
    refine qst D (y8 (o.toNat : Int)) (wK D true) rfl (by kernel_rfl) (fun v87 hC => stridx_run D (k := .i64) rfl (by kernel_rfl) (by kernel_rfl) (by kernel_rfl) a2.1 am) ?_; intro bs E
    refine qg_ E true (str u0) ?_; intro bt F
    refine qg_ F true (i6 a) ?_; intro bu G
    refine qg_ G true (i6 (w64 (a - 1))) ?_; intro bv H
    obtain ⟨a6, a8⟩ := a5
    obtain ⟨p, an⟩ : ∃ q, u0[(w64 (a - 1)).toNat]? = some q := ⟨_, List.getElem?_eq_getElem (by omega)⟩; have I := a8 p an
    refine qst H (y8 (p.toNat : Int)) (wK H true) rfl (by kernel_rfl) (fun v104 hC => stridx_run H (k := .i64) rfl (by kernel_rfl) (by kernel_rfl) (by kernel_rfl) a6.1 an) ?_; intro bw J
    refine qg_ J true (.bool ((o.toNat : Int) == (p.toNat : Int))) ?_; intro bx ao
    refine q1 ao 29 (.bool ((o.toNat : Int) == (p.toNat : Int))) ?_; intro bz u
    refine qnl (ai _ ?_); intro bA i
    refine c_ u I (fun _ ap => ?_) fun _ au => ?_
    ·
     refine rgB u i [] [] [(6, i6 (w64 (g + 1)))] ?_; intro bB aq
     refine t_ (rgB aq i [] [] [(5, i6 (max f (w64 (g + 1))))] ?_); intro bC ar
     refine j_ (t_ (rgB ar i [] [] [(15, i6 (w64 (a + 1)))] ?_)); intro bD ba
     exact d_ ⟨⟨max f (w64 (g + 1)), w64 (g + 1), w64 (a + 1)⟩, ap.1, ap.2, (ba.reg).anyβ _ (by kernel_rfl), i.kp⟩
    ·
     refine rgB u i [] [] [(6, i6 1)] ?_; intro bE av
     refine t_ (rgB av i [] [] [(5, i6 (max f 1))] ?_); intro bF aw
     refine j_ (t_ (rgB aw i [] [] [(15, i6 (w64 (a + 1)))] ?_)); intro bG bb
     exact d_ ⟨⟨max f 1, 1, w64 (a + 1)⟩, au.1, au.2, (bb.reg).anyβ _ (by kernel_rfl), i.kp⟩
   ·
    have ay : Fr 37 [] [⟨0, [], str u0⟩, ⟨5, [], i6 f⟩, ⟨6, [], i6 g⟩, ⟨7, [], i6 a⟩, ⟨14, [], i6 (u0.length : Int)⟩, ⟨15, [], i6 a⟩] O := A.reg
    refine sqQH mixed (by kernel_rfl) ae ?_; intro bc az
    refine q1 ay 18 (i6 a) ?_; intro bH aA
    refine q1 aA 19 (.bool (decide (a > 0))) ?_; intro bI aB
    have aC := aB.reval (d := 19) (c := []) (v := .bool (decide (a > 0))) (by kernel_rfl) (.bool false) (by rw [n])
    refine q1 aC 20 (.bool false) ?_; intro bJ aD
    refine qk_ aD false ?_; intro bK aE
    refine qk_ aE false ?_; intro bL aF
    refine qk_ aF false ?_; intro bM aG
    refine qk_ aG false ?_; intro bN aH
    refine qk_ aH false ?_; intro bO aI
    refine qk_ aI false ?_; intro bP aJ
    refine qk_ aJ false ?_; intro bQ aK
    refine qk_ aK false ?_; intro bR aL
    refine q1 aL 29 (.bool false) ?_; intro bS Q
    refine qnl (az _ ?_); intro bT L
    refine cdF Q (by kernel_rfl) ?_
    refine rgB Q L [] [] [(6, i6 1)] ?_; intro bU aM
    refine t_ (rgB aM L [] [] [(5, i6 (max f 1))] ?_); intro bV aN
    refine j_ (t_ (rgB aN L [] [] [(15, i6 (w64 (a + 1)))] ?_)); intro bW bd
    exact d_ ⟨⟨max f 1, 1, w64 (a + 1)⟩, ax.1, ax.2, (bd.reg).anyβ _ (by kernel_rfl), L.kp⟩
  ·
   refine x_ (y_ (y_ (z_ (t_ (sqB m ae [] [] [(2, i6 f), (3, i6 0)] ?_))))); intro bX bf
   exact r_ (ra2 bf (.tuple #[i6 f, i6 0]) ⟨(f, 0), rfl, be, ae.below⟩)

theorem beq_walk (u0 : List Int) (u1 : List Int) (ao1 : Option Addr) (cap2 : Nat) (ao4 : Option Addr) (cap5 : Nat) (Z : Fz) (w : World) (hs3 : SlR t8 Z ao1 cap2 u0) (hs6 : SlR t8 Z ao4 cap5 u1) (hZ : Z.on w) {K : Bool → Prop} (hp : beq_vc u0 u1 K) : Calls Tryd.prog 10 #[.slice ao1 u0.length cap2, .slice ao4 u1.length cap5] w fun e w' => ∃ r : Bool, e = .returned (.bool r) ∧ K r ∧ Below w.heap.size w w' := by
 refine enter0 Tryd.func10 rfl rfl (by kernel_rfl) ?_; intro a0 y; have b := Mem.start w Z hZ
 have l := hp (hs3.small) (hs6.small)
 refine sqB y b [] [] [] ?_; intro aD A
 refine s_ (sqB A b [] [] [(10, .bool ((u0.length : Int) != (u1.length : Int)))] ?_); intro aE d
 refine c_ d l (fun _ W => ?_) fun _ Y => ?_
 ·
  refine sqB d b [] [] [(4, .bool false)] ?_; intro aF X
  exact r_ (h_ (ra1 X (.bool false) ⟨false, rfl, W, b.below⟩))
 ·
  refine k_ (s_ (sqB d b [] [] [(12, i6 (u0.length : Int)), (13, i6 0)] ?_)); intro B C
  apply b_
  have D : Fr 26 [] [⟨0, [], .slice ao1 u0.length cap2⟩, ⟨1, [], .slice ao4 u1.length cap5⟩, ⟨12, [], i6 (u0.length : Int)⟩, ⟨13, [], i6 0⟩] B := C.reg
  obtain ⟨aa, ab, ac, ad⟩ := Y
  refine lp (ι := Int) (fun s => [⟨0, [], .slice ao1 u0.length cap2⟩, ⟨1, [], .slice ao4 u1.length cap5⟩, ⟨12, [], i6 (u0.length : Int)⟩, ⟨13, [], i6 s⟩]) (fun s => []) (fun s => Z) (fun s => aa s) (fun s => ab s) 0 ac (by exact D.reg) (by exact b) ?_
  rintro a ae af ag F G
  have m := ad a ae
  refine sqB F G [] [] [(14, .bool (decide (a < (u0.length : Int))))] ?_; intro aG f
  refine s_ (c_ f m (fun _ ah => ?_) fun _ aA => ?_)
  ·
   refine k_ (s_ (b_ (sqB f G [] [] [(5, i6 a)] ?_))); intro ai I
   have J : Fr 26 [] [⟨0, [], .slice ao1 u0.length cap2⟩, ⟨1, [], .slice ao4 u1.length cap5⟩, ⟨5, [], i6 a⟩, ⟨12, [], i6 (u0.length : Int)⟩, ⟨13, [], i6 a⟩] ai := I.reg
   refine sqQH mixed (by kernel_rfl) G ?_; intro aj L
   refine q1 J 16 (.slice ao1 u0.length cap2) ?_; intro aH M
   refine q1 M 17 (i6 a) ?_; intro aI N
   obtain ⟨ak, O⟩ := ah
   refine qx_ N hs3 a ak .i64 5 1 ?_; intro aJ aK al h aL am an ao u
   have ap := O h am
   obtain rfl : al = ([y8 h] : List Value) := ao
   refine qz_ u an 0 (y8 h) rfl ?_; intro aM P
   refine q1 P 20 (.slice ao4 u1.length cap5) ?_; intro aN Q
   refine q1 Q 21 (i6 a) ?_; intro aO R
   obtain ⟨aq, S⟩ := ap
   refine qx_ R hs6 a aq .i64 5 1 ?_; intro aP aQ ar i aR au av aw v
   have n := S i au
   obtain rfl : ar = ([y8 i] : List Value) := aw
   refine qz_ v av 0 (y8 i) rfl ?_; intro aS U
   refine q1 U 24 (.bool (h != i)) ?_; intro aT j
   refine qnl (L _ ?_); intro aU o
   refine c_ j n (fun _ ax => ?_) fun _ V => ?_
   ·
    refine sqB j o [] [] [(4, .bool false)] ?_; intro aV ay
    exact r_ (i_ (h_ (h_ (i_ (h_ (ra1 ay (.bool false) ⟨false, rfl, ax, o.below⟩))))))
   ·
    refine l_ (j_ (t_ (rgB j o [] [] [(13, i6 (w64 (a + 1)))] ?_))); intro aW az
    exact d_ ⟨w64 (a + 1), V.1, V.2, (az.reg).anyβ _ (by kernel_rfl), o.kp⟩
  ·
   refine x_ (y_ (y_ (z_ (t_ (sqB f G [] [] [(4, .bool true)] ?_))))); intro aX aB
   exact r_ (ra1 aB (.bool true) ⟨true, rfl, aA, G.below⟩)

theorem bturned_walk (u0 : List UInt8)  (Z : Fz) (w : World) (hg0 : SlR t8 Z (sm 0) 256 u8firstL) (hg1 : SlR t8 Z (sm 1) 32 u8accL) (hZ : Z.on w) {K : ((List UInt8) × Int) → Prop} (hp : bturned_vc u0 K) : Calls Tryd.prog 11 #[str u0] w fun e w' => ∃ r : (List UInt8) × Int, e = .returned (.tuple #[str r.1, i6 r.2]) ∧ K r ∧ Below w.heap.size w w' := by
 refine enter0 Tryd.func11 rfl rfl (by kernel_rfl) ?_; intro A f; have c := Mem.start w Z hZ
 refine sqB f c [] [] [] ?_; intro C g
 refine s_ (sqH ?_); intro p h
 refine s1 g 5 (str u0) ?_; intro D i
 refine fc i c (bcheck_fun u0 _ _ c.fz) ?_; intro E F j a
 refine s1 j 4 (i6 (bcheckS u0)) ?_; intro G k
 apply h
 refine sqB k a [] [] [(8, .bool ((bcheckS u0) != 0))] ?_; intro H b
 refine c_ b hp (fun _ q => ?_) fun _ u => ?_
 ·
  refine sqB b a [] [] [(2, str []), (3, i6 (bcheckS u0))] ?_; intro I s
  exact r_ (h_ (ra2 s (.tuple #[str [], i6 (bcheckS u0)]) ⟨([], (bcheckS u0)), rfl, q, a.below⟩))
 ·
  refine k_ (sqH ?_); intro v l
  refine s1 b 10 (str u0) ?_; intro J m
  obtain ⟨x, y⟩ := u
  refine fc m a (smap_fun u0 x _ _ hg0 hg1 a.fz) ?_; intro L M n o
  refine bt n o 2 [] [] [(2, str (smapS u0)), (3, i6 0)] ?_; intro N z
  apply l
  exact r_ (ra2 z (.tuple #[str (smapS u0), i6 0]) ⟨((smapS u0), 0), rfl, y, o.below⟩)

end Go.Proofs.YtgddhhkpaoboiaaDoor
set_option linter.unusedVariables false
set_option linter.unusedSimpArgs false
set_option linter.defProp false
set_option maxRecDepth 100000
set_option maxHeartbeats 0
namespace Go.Proofs.YtgddhhkpaoboiaaDoor
open Go.Sy Go.RowKit
def bnumber_fun (u0 : List UInt8)  (Z : Fz) (w : World)  (hZ : Z.on w) := f_ (bnumber_walk u0  Z w  hZ (bnumber_ok u0))
def brow_fun (u0 : Int) (u1 : Int) (hpre : u0 ≤ 9223372036854775807)  (Z : Fz) (w : World)  (hZ : Z.on w) := f_ (brow_walk u0 u1  Z w  hZ (brow_ok u0 u1 hpre))
def bof_fun (u0 : List Int) (hpre : ∀ x ∈ u0, 0 ≤ x ∧ x ≤ 255) (ao1 : Option Addr) (cap2 : Nat) (Z : Fz) (w : World) (hs3 : SlR t8 Z ao1 cap2 u0) (hZ : Z.on w) := f_ (bof_walk u0 ao1 cap2 Z w hs3 hZ (bof_ok u0 hpre))
def bbytes_fun (u0 : List UInt8)  (Z : Fz) (w : World)  (hZ : Z.on w) := fc_ (bbytes_walk u0  Z w  hZ (bbytes_ok u0))
def brun_fun (u0 : List UInt8)  (Z : Fz) (w : World)  (hZ : Z.on w) := f_ (brun_walk u0  Z w  hZ (brun_ok u0))
def beq_fun (u0 : List Int) (u1 : List Int) (ao1 : Option Addr) (cap2 : Nat) (ao4 : Option Addr) (cap5 : Nat) (Z : Fz) (w : World) (hs3 : SlR t8 Z ao1 cap2 u0) (hs6 : SlR t8 Z ao4 cap5 u1) (hZ : Z.on w) := f_ (beq_walk u0 u1 ao1 cap2 ao4 cap5 Z w hs3 hs6 hZ (beq_ok u0 u1))
def bturned_fun (u0 : List UInt8)  (Z : Fz) (w : World) (hg0 : SlR t8 Z (sm 0) 256 u8firstL) (hg1 : SlR t8 Z (sm 1) 32 u8accL) (hZ : Z.on w) := f_ (bturned_walk u0  Z w hg0 hg1 hZ (bturned_ok u0))
theorem rowed_walk   (Z : Fz) (w : World)  (hZ : Z.on w) {K : Bool → Prop} (hp : rowed_vc  K) : Calls Tryd.prog 7 #[] w fun e w' => ∃ r : Bool, e = .returned (.bool r) ∧ K r ∧ Below w.heap.size w w' := by
 refine enter0 Tryd.func7 rfl rfl (by kernel_rfl) ?_; intro s d; have a := Mem.start w Z hZ
 refine sqB d a [] [] [] ?_; intro u f
 refine sqH ?_; intro m g
 refine fc f a (bnumber_fun ([49, 48, 49, 48] : List UInt8) _ _ a.fz) ?_; intro v x h b
 refine bt h b 5 [] [] [(1, i6 (bnumberS ([49, 48, 49, 48] : List UInt8)).1), (2, i6 (bnumberS ([49, 48, 49, 48] : List UInt8)).2)] ?_; intro y i
 apply g
 refine sqH ?_; intro n j
 obtain ⟨o, p⟩ := hp
 refine fc i b (brow_fun 10 5 o _ _ b.fz) ?_; intro z A k c
 refine bt k c 5 [] [] [(3, str (browS 10 5).1), (4, i6 (browS 10 5).2)] ?_; intro B l
 apply j
 refine sqB l c [] [52] [(0, .bool (((((bnumberS ([49, 48, 49, 48] : List UInt8)).2 == 0) && ((browS 10 5).2 == 0)) && ((bnumberS ([49, 48, 49, 48] : List UInt8)).1 == 10)) && ((browS 10 5).1 == ([48, 49, 48, 49, 48] : List UInt8))))] ?_; intro C q
 exact r_ (ra1 q (.bool (((((bnumberS ([49, 48, 49, 48] : List UInt8)).2 == 0) && ((browS 10 5).2 == 0)) && ((bnumberS ([49, 48, 49, 48] : List UInt8)).1 == 10)) && ((browS 10 5).1 == ([48, 49, 48, 49, 48] : List UInt8)))) ⟨((((bnumberS ([49, 48, 49, 48] : List UInt8)).2 == 0) && ((browS 10 5).2 == 0)) && ((bnumberS ([49, 48, 49, 48] : List UInt8)).1 == 10)) && ((browS 10 5).1 == ([48, 49, 48, 49, 48] : List UInt8)), rfl, p, c.below⟩)

end Go.Proofs.YtgddhhkpaoboiaaDoor
set_option linter.unusedVariables false
set_option linter.unusedSimpArgs false
set_option linter.defProp false
set_option maxRecDepth 100000
set_option maxHeartbeats 0
namespace Go.Proofs.YtgddhhkpaoboiaaDoor
open Go.Sy Go.RowKit
def rowed_fun   (Z : Fz) (w : World)  (hZ : Z.on w) := f_ (rowed_walk   Z w  hZ (rowed_ok ))
theorem LBBack_walk (u0 : Int) (u1 : Int) (u2 : List Int) (u3 : List UInt8) (ao1 : Option Addr) (cap2 : Nat) (Z : Fz) (w : World) (hs3 : SlR t8 Z ao1 cap2 u2) (hg0 : SlR t8 Z (sm 0) 256 u8firstL) (hg1 : SlR t8 Z (sm 1) 32 u8accL) (hZ : Z.on w) {K : Bool → Prop} (hp : LBBack_vc u0 u1 u2 u3 K) : Calls Tryd.prog 3 #[i6 u0, i6 u1, .slice ao1 u2.length cap2, str u3] w fun e w' => ∃ r : Bool, e = .returned (.bool r) ∧ K r ∧ Below w.heap.size w w' := by
 refine enter0 Tryd.func3 rfl rfl (by kernel_rfl) ?_; intro a0 R; have c := Mem.start w Z hZ
 have bi := hp (hs3.small)
 refine sqB R c [] [] [] ?_; intro a6 S
 refine sqH ?_; intro bk T
 refine bt S c 2 [] [] [(19, i6 u0), (20, i6 u1)] ?_; intro bK U
 obtain ⟨bl, o⟩ := bi
 refine fc U c (brow_fun u0 u1 bl _ _ c.fz) ?_; intro bL bM V p
 refine bt V p 5 [] [] [(9, str (browS u0 u1).1), (10, i6 (browS u0 u1).2)] ?_; intro bN W
 apply T
 refine sqH ?_; intro bm X
 refine s1 W 25 (str (browS u0 u1).1) ?_; intro bO Y
 refine fc Y p (bnumber_fun (browS u0 u1).1 _ _ p.fz) ?_; intro bP bQ aa q
 refine bt aa q 5 [] [] [(11, i6 (bnumberS (browS u0 u1).1).1), (12, i6 (bnumberS (browS u0 u1).1).2)] ?_; intro bR ab
 apply X
 refine s_ (sqH ?_); intro bn ac
 refine fc ab q (rowed_fun  _ _ q.fz) ?_; intro bS bT ad d
 refine s1 ad 30 (.bool false) ?_; intro bU ae
 refine s1 ae 31 (.bool false) ?_; intro bV s
 refine g_ s false (i6 (browS u0 u1).2) ?_; intro bW u
 refine g_ u false (.bool ((browS u0 u1).2 == 0)) ?_; intro bX x
 refine g_ x false (.bool ((browS u0 u1).2 == 0)) ?_; intro bY af
 have ag := af.atom (((browS u0 u1).2 == 0) == true) (by kernel_rfl)
 refine gp ag 35 0 [] ((browS u0 u1).2 == 0) (i6 (bnumberS (browS u0 u1).1).2) rfl rfl ?_; intro bZ ah
 refine gp ah 36 0 [] ((browS u0 u1).2 == 0) (.bool ((bnumberS (browS u0 u1).1).2 != 0)) rfl rfl ?_; intro b0 ai
 refine gp ai 37 0 [] ((browS u0 u1).2 == 0) (.bool ((bnumberS (browS u0 u1).1).2 != 0)) rfl rfl ?_; intro b1 aj
 have ak := aj.atom (((bnumberS (browS u0 u1).1).2 != 0) == false) (by kernel_rfl)
 refine gp ak 38 1 [0] ((bnumberS (browS u0 u1).1).2 != 0) (i6 (bnumberS (browS u0 u1).1).1) rfl rfl ?_; intro b2 al
 refine gp al 39 1 [0] ((bnumberS (browS u0 u1).1).2 != 0) (i6 u0) rfl rfl ?_; intro b3 am
 refine gp am 40 1 [0] ((bnumberS (browS u0 u1).1).2 != 0) (.bool ((bnumberS (browS u0 u1).1).1 != u0)) rfl rfl ?_; intro b4 G
 refine gd G (.bool (((bnumberS (browS u0 u1).1).2 != 0) || ((bnumberS (browS u0 u1).1).1 != u0))) (m := 0) (cj := []) (bj := (browS u0 u1).2 == 0) rfl rfl (by kernel_rfl) rfl (by kernel_rfl) (by kernel_rfl) (by kernel_rfl) (fun hg => pk_or G (g := [0]) (m := 1) (b := (bnumberS (browS u0 u1).1).2 != 0) (v := (bnumberS (browS u0 u1).1).1 != u0) rfl (by kernel_rfl) (by kernel_rfl) (by kernel_rfl) hg) ?_; intro b5 an
 refine gp an 42 0 [] ((browS u0 u1).2 == 0) (.bool (((bnumberS (browS u0 u1).1).2 != 0) || ((bnumberS (browS u0 u1).1).1 != u0))) rfl rfl ?_; intro b6 ao
 have ap := ao.atom ((((bnumberS (browS u0 u1).1).2 != 0) || ((bnumberS (browS u0 u1).1).1 != u0)) == false) (by kernel_rfl)
 refine gp ap 43 2 [0] (((bnumberS (browS u0 u1).1).2 != 0) || ((bnumberS (browS u0 u1).1).1 != u0)) (str (browS u0 u1).1) rfl rfl ?_; intro b7 aq
 refine gp aq 44 2 [0] (((bnumberS (browS u0 u1).1).2 != 0) || ((bnumberS (browS u0 u1).1).1 != u0)) (i6 ((browS u0 u1).1.length : Int)) rfl rfl ?_; intro b8 ar
 refine gp ar 45 2 [0] (((bnumberS (browS u0 u1).1).2 != 0) || ((bnumberS (browS u0 u1).1).1 != u0)) (i6 u1) rfl rfl ?_; intro b9 au
 refine gp au 46 2 [0] (((bnumberS (browS u0 u1).1).2 != 0) || ((bnumberS (browS u0 u1).1).1 != u0)) (.bool (((browS u0 u1).1.length : Int) != u1)) rfl rfl ?_; intro ca H
 refine gd H (.bool ((((bnumberS (browS u0 u1).1).2 != 0) || ((bnumberS (browS u0 u1).1).1 != u0)) || (((browS u0 u1).1.length : Int) != u1))) (m := 0) (cj := []) (bj := (browS u0 u1).2 == 0) rfl rfl (by kernel_rfl) rfl (by kernel_rfl) (by kernel_rfl) (by kernel_rfl) (fun hg => pk_or H (g := [0]) (m := 2) (b := ((bnumberS (browS u0 u1).1).2 != 0) || ((bnumberS (browS u0 u1).1).1 != u0)) (v := ((browS u0 u1).1.length : Int) != u1) rfl (by kernel_rfl) (by kernel_rfl) (by kernel_rfl) hg) ?_; intro cb y
 refine v_ y (.bool (((browS u0 u1).2 == 0) && ((((bnumberS (browS u0 u1).1).2 != 0) || ((bnumberS (browS u0 u1).1).1 != u0)) || (((browS u0 u1).1.length : Int) != u1)))) (wK y false) (pk_and y (g := []) (m := 0) (b := (browS u0 u1).2 == 0) (v := (((bnumberS (browS u0 u1).1).2 != 0) || ((bnumberS (browS u0 u1).1).1 != u0)) || (((browS u0 u1).1.length : Int) != u1)) rfl (by kernel_rfl) (by kernel_rfl) (by kernel_rfl) rfl) ?_; intro cc av
 refine s1 av 49 (.bool (((browS u0 u1).2 == 0) && ((((bnumberS (browS u0 u1).1).2 != 0) || ((bnumberS (browS u0 u1).1).1 != u0)) || (((browS u0 u1).1.length : Int) != u1)))) ?_; intro aw f
 apply ac
 refine cd f (t := ((browS u0 u1).2 == 0) && ((((bnumberS (browS u0 u1).1).2 != 0) || ((bnumberS (browS u0 u1).1).1 != u0)) || (((browS u0 u1).1.length : Int) != u1))) (by kernel_rfl) (fun I => ?_) (fun I => ?_)
 · -- yes
  have bo := o.1 I
  have ax : Fr 114 [] [] aw := f.reg
  refine sqB ax d [] [] [(8, .bool false)] ?_; intro ce bp
  exact r_ (h_ (ra1 bp (.bool false) ⟨false, rfl, bo, d.below⟩))
 · -- no
  have bq := o.2 I
  apply k_
  have ay : Fr 114 [] [⟨2, [], .slice ao1 u2.length cap2⟩, ⟨3, [], str u3⟩] aw := f.reg
  refine sqH ?_; intro br az
  refine s1 ay 51 (.slice ao1 u2.length cap2) ?_; intro cf aA
  obtain ⟨bs, aB⟩ := bq
  refine fc aA d (bof_fun u2 bs ao1 cap2 _ _ hs3 d.fz) ?_; intro cg ch aC z
  refine bt aC z 5 [] [] [(9, str (bofS u2).1), (10, i6 (bofS u2).2)] ?_; intro ci aD
  apply az
  refine sqH ?_; intro bu aE
  refine s1 aD 56 (str (bofS u2).1) ?_; intro cl aF
  refine ck aF 9 #[str (bofS u2).1] ?_
  refine (bbytes_fun (bofS u2).1 _ _ z.fz).mono ?_; rintro _ aG ⟨h, i, bv, rfl, hm⟩; refine ⟨_, rfl, ?_⟩; intro cm aH; have aI := z.callZ hm; have A := hm.ext.le
  replace hs3 := hs3.mono A
  replace hg0 := hg0.mono A
  replace hg1 := hg1.mono A
  have J : Mem w.heap.size [] w Z [.own t8 5 h i (bbytesS (bofS u2).1).1] bv aG := aI
  have B := aB (J.ownSmall 0 rfl)
  refine bt aH J 5 [] [] [(12, i6 (bbytesS (bofS u2).1).2), (13, .slice h (bbytesS (bofS u2).1).1.length i)] ?_; intro cn aJ
  apply aE
  refine s_ (sqH ?_); intro bw aK
  refine s1 aJ 60 (i6 (bofS u2).2) ?_; intro co aL
  refine s1 aL 61 (.bool ((bofS u2).2 == 0)) ?_; intro cp aM
  refine s1 aM 62 (.bool ((bofS u2).2 == 0)) ?_; intro cq aN
  have aO := aN.atom (((bofS u2).2 == 0) == true) (by kernel_rfl)
  refine gp aO 63 0 [] ((bofS u2).2 == 0) (i6 (bbytesS (bofS u2).1).2) rfl rfl ?_; intro cr aP
  refine gp aP 64 0 [] ((bofS u2).2 == 0) (.bool ((bbytesS (bofS u2).1).2 != 0)) rfl rfl ?_; intro cs aQ
  refine gp aQ 65 0 [] ((bofS u2).2 == 0) (.bool ((bbytesS (bofS u2).1).2 != 0)) rfl rfl ?_; intro ct aR
  have aS := aR.atom (((bbytesS (bofS u2).1).2 != 0) == false) (by kernel_rfl)
  refine gp aS 66 1 [0] ((bbytesS (bofS u2).1).2 != 0) (.slice h (bbytesS (bofS u2).1).1.length i) rfl rfl ?_; intro cu aT
  refine gp aT 67 1 [0] ((bbytesS (bofS u2).1).2 != 0) (.slice ao1 u2.length cap2) rfl rfl ?_; intro cv aU
  obtain ⟨bx, C, aV, bz⟩ := J.freeze 0 rfl
  replace hs3 := hs3.mono C
  replace hg0 := hg0.mono C
  replace hg1 := hg1.mono C
  have L : Mem w.heap.size [] w Z [] bx aG := aV
  refine gcl aU L (.bool (beqS (bbytesS (bofS u2).1).1 u2)) 10 #[.slice h (bbytesS (bofS u2).1).1.length i, .slice ao1 u2.length cap2] (m := 1) (cj := [0]) (bj := (bbytesS (bofS u2).1).2 != 0) rfl rfl (by kernel_rfl) rfl (by kernel_rfl) (by kernel_rfl) (by kernel_rfl) (fun _ => by kernel_rfl) (fun hg => beq_fun (bbytesS (bofS u2).1).1 u2 h i ao1 cap2 _ _ bz hs3 L.fz) ?_; intro cw cx aW j
  refine gp aW 69 1 [0] ((bbytesS (bofS u2).1).2 != 0) (.bool (!(beqS (bbytesS (bofS u2).1).1 u2))) rfl rfl ?_; intro cy M
  refine gd M (.bool (((bbytesS (bofS u2).1).2 != 0) || (!(beqS (bbytesS (bofS u2).1).1 u2)))) (m := 0) (cj := []) (bj := (bofS u2).2 == 0) rfl rfl (by kernel_rfl) rfl (by kernel_rfl) (by kernel_rfl) (by kernel_rfl) (fun hg => pk_or M (g := [0]) (m := 1) (b := (bbytesS (bofS u2).1).2 != 0) (v := !(beqS (bbytesS (bofS u2).1).1 u2)) rfl (by kernel_rfl) (by kernel_rfl) (by kernel_rfl) hg) ?_; intro cz N
  refine u_ N (.bool (((bofS u2).2 == 0) && (((bbytesS (bofS u2).1).2 != 0) || (!(beqS (bbytesS (bofS u2).1).1 u2))))) (pk_and N (g := []) (m := 0) (b := (bofS u2).2 == 0) (v := ((bbytesS (bofS u2).1).2 != 0) || (!(beqS (bbytesS (bofS u2).1).1 u2))) rfl (by kernel_rfl) (by kernel_rfl) (by kernel_rfl) rfl) ?_; intro aX k
  apply aK
  refine cd k (t := ((bofS u2).2 == 0) && (((bbytesS (bofS u2).1).2 != 0) || (!(beqS (bbytesS (bofS u2).1).1 u2)))) (by kernel_rfl) (fun O => ?_) (fun O => ?_)
  · -- yes
   have bA := B.1 O
   have aY : Fr 114 [] [] aX := k.reg
   refine sqB aY j [] [] [(8, .bool false)] ?_; intro cA bB
   exact r_ (h_ (ra1 bB (.bool false) ⟨false, rfl, bA, j.below⟩))
  · -- no
   have D := B.2 O
   apply k_
   have aZ : Fr 114 [] [⟨3, [], str u3⟩] aX := k.reg
   refine sqH ?_; intro bC a1
   refine s1 aZ 73 (str u3) ?_; intro cB a2
   refine fc a2 j (bturned_fun u3 _ _ hg0 hg1 j.fz) ?_; intro cC cD a3 a
   refine bt a3 a 5 [] [] [(9, str (bturnedS u3).1), (10, i6 (bturnedS u3).2)] ?_; intro cE a4
   apply a1
   refine s_ (sqB a4 a [] [] [(78, .bool ((bturnedS u3).2 != 0))] ?_); intro cF l
   refine cd l (t := (bturnedS u3).2 != 0) (by kernel_rfl) (fun P => ?_) (fun P => ?_)
   · -- yes
    have bD := D.1 P
    refine sqB l a [] [] [(8, .bool true)] ?_; intro cG bE
    exact r_ (h_ (ra1 bE (.bool true) ⟨true, rfl, bD, a.below⟩))
   · -- no
    have bF := D.2 P
    refine k_ (sqH ?_); intro bG a5
    refine s1 l 80 (str (bturnedS u3).1) ?_; intro cH a7
    refine fc a7 a (bturned_fun (bturnedS u3).1 _ _ hg0 hg1 a.fz) ?_; intro cI cJ a8 E
    refine bt a8 E 5 [] [] [(10, i6 (bturnedS (bturnedS u3).1).2), (14, str (bturnedS (bturnedS u3).1).1)] ?_; intro cK a9
    apply a5
    refine sqH ?_; intro bH ba
    refine s1 a9 85 (str (bturnedS u3).1) ?_; intro cL bb
    refine fc bb E (brun_fun (bturnedS u3).1 _ _ E.fz) ?_; intro cM cN bc F
    refine bt bc F 5 [] [] [(12, i6 (brunS (bturnedS u3).1).2), (15, i6 (brunS (bturnedS u3).1).1)] ?_; intro cO bd
    apply ba
    refine sqH ?_; intro bI be
    refine s1 bd 90 (str u3) ?_; intro cP bf
    refine fc bf F (brun_fun u3 _ _ F.fz) ?_; intro cQ cR bg Q
    refine bt bg Q 5 [] [] [(16, i6 (brunS u3).1), (17, i6 (brunS u3).2)] ?_; intro cS bh
    apply be
    refine sqB bh Q [] [221] [(8, .bool ((((((bturnedS (bturnedS u3).1).2 == 0) && ((brunS (bturnedS u3).1).2 == 0)) && ((brunS u3).2 == 0)) && ((bturnedS (bturnedS u3).1).1 == u3)) && ((brunS (bturnedS u3).1).1 == (brunS u3).1)))] ?_; intro cT bJ
    exact r_ (ra1 bJ (.bool ((((((bturnedS (bturnedS u3).1).2 == 0) && ((brunS (bturnedS u3).1).2 == 0)) && ((brunS u3).2 == 0)) && ((bturnedS (bturnedS u3).1).1 == u3)) && ((brunS (bturnedS u3).1).1 == (brunS u3).1))) ⟨(((((bturnedS (bturnedS u3).1).2 == 0) && ((brunS (bturnedS u3).1).2 == 0)) && ((brunS u3).2 == 0)) && ((bturnedS (bturnedS u3).1).1 == u3)) && ((brunS (bturnedS u3).1).1 == (brunS u3).1), rfl, bF, Q.below⟩)

end Go.Proofs.YtgddhhkpaoboiaaDoor
