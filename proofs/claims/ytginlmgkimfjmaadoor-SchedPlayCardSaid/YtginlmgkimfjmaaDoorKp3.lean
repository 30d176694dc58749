/- Texts put together (pure ones, or walks made by program). -/
import Derived.Test.YtginlmgkimfjmaaDoorKp0
import Derived.Test.YtginlmgkimfjmaaDoorKp1
import Derived.Test.YtginlmgkimfjmaaDoorKp2
import Derived.Shelf.Lay
import Derived.Ground.NamesProg
import Derived.Shelf.Strings.Builder1
import Derived.Test.YtginlmgkimfjmaaDoorRows
import Derived.Shelf.Strings.Repeat
namespace Go.Sy
open Go.Proofs Go.Shelf Go.RowKit
variable {P : Program} {ρ : Ren} {B b : Nat} {w0 : World} {Z : Fz} {w w' : World} {T e : TypeId} {ao : Option Addr} {cap : Nat} {p : Value}
theorem repBytes {Z : Fz} {cells : List Value} {xs : List UInt8} (h : RepAll tyByte Z cells xs) : cells = Lib.byteCells xs := by
  have hl : cells.length = xs.length * 1 := h.1
  apply List.ext_getElem?
  intro i
  unfold Lib.byteCells
  rw [List.getElem?_map]
  rcases Nat.lt_or_ge i xs.length with hi | hi
  · have hx : xs[i]? = some xs[i] := List.getElem?_eq_getElem hi
    have hr : ((cells.drop (i * 1)).take 1) = [.int .u8 (xs[i].toNat : Int)] := h.2 i _ hx
    rw [hx, Nat.mul_one] at *
    have := congrArg (fun l => l[0]?) hr
    simpa using this
  · rw [List.getElem?_eq_none (by omega), List.getElem?_eq_none hi]
    rfl
theorem bytesRep (Z : Fz) (xs : List UInt8) : RepAll tyByte Z (Lib.byteCells xs) xs := by
  refine ⟨by simp [Lib.byteCells, tyByte], fun i x hx => ?_⟩
  show ((Lib.byteCells xs).drop (i * 1)).take 1 = [.int .u8 (x.toNat : Int)]
  have hi := (List.getElem?_eq_some_iff.1 hx).1
  unfold Lib.byteCells
  rw [Nat.mul_one, List.drop_eq_getElem_cons (by simpa using hi)]
  have hx2 : xs[i] = x := (List.getElem?_eq_some_iff.1 hx).2
  simp [hx2]
/-- The memory of a call that has one builder and nothing else of its own. -/
abbrev BldR (b : Nat) (p : Value) (T e : TypeId) (ao : Option Addr) (cap : Nat) (xs : List UInt8) : List Res := [.row b [p, .slice ao xs.length cap] T, .own tyByte e ao cap xs]
theorem bld_is {xs : List UInt8} (hM : Mem B [] w0 Z (BldR b p T e ao cap xs) Z w) (hp : p = .pointer none ∨ p = .pointer (some ⟨b, 0, none⟩)) : Lib.IsBuilder T e B b (Lib.byteCells xs) w := by
  have h1 := hM.res (.row b [p, .slice ao xs.length cap] T) (by simp)
  have h2 := hM.res (.own tyByte e ao cap xs) (by simp)
  obtain ⟨_, _, cells, ho, hr⟩ := h2
  have hc := repBytes hr
  subst hc
  have hl : (Lib.byteCells xs).length = xs.length := Lib.byteCells_length xs
  have hB : B ≤ b := h1.1.elim id (by simp)
  have hn : (Value.slice ao xs.length cap).ownBlock ≠ some b := by
    have hnd := (List.pairwise_cons.1 hM.nd).1 (.own tyByte e ao cap xs) (by simp) b rfl
    cases ao with
    | none => simp [Value.ownBlock]
    | some ad => simpa [Value.ownBlock, Res.foot] using hnd
  have hA : Lib.BuilderAt T e B b p (Lib.byteCells xs) w := ⟨hB, _, h1.2, by rw [hl]; exact ho, hn⟩
  rcases hp with rfl | rfl
  · exact .inl hA
  · exact .inr hA
theorem bld_back {R : List Res} {ys : List UInt8} (hM : Mem B [] w0 Z R Z w) (hZB : ∀ k o, Z k = some o → k < B) (hA : Lib.BuilderAt T e B b (.pointer (some ⟨b, 0, none⟩)) (Lib.byteCells ys) w') (hb : Below B w w') (hl : ys.length ≤ lim) :
    ∃ ao cap, Mem B [] w0 Z (BldR b (.pointer (some ⟨b, 0, none⟩)) T e ao cap ys) Z w' := by
  obtain ⟨hBb, v, hv, ho, hne⟩ := hA
  rw [Lib.byteCells_length] at ho
  have hshape : ∃ ao cap, v = .slice ao ys.length cap := by
    rcases ho.2 with ⟨e1, e2⟩ | ⟨g, c, cur, e1, _⟩
    · exact ⟨none, 0, by rw [e1, e2]⟩
    · exact ⟨_, c, e1⟩
  obtain ⟨ao, cap, rfl⟩ := hshape
  have hsz := hb.size
  have hbase : B ≤ w'.heap.size := Nat.le_trans hM.base hsz
  have hfb : ∀ k, (Res.own tyByte e ao cap ys).foot = some k → B ≤ k ∧ k ≠ b := by
    intro k hk
    cases ao with
    | none => simp [Res.foot] at hk
    | some ad =>
      simp only [Res.foot, Option.map_some, Option.some.injEq] at hk
      subst hk
      refine ⟨(World.ownsRow.lt ho ad.block rfl).1, fun hc => hne ?_⟩
      rw [← hc]
      rfl
  refine ⟨ao, cap, ⟨hM.kept.os ▸ hb.os, hM.kept.tape ▸ hb.tape, hM.kept.output ▸ hb.output, Nat.le_trans hM.kept.size hsz, fun k hk hU => (hb.block k hk).trans (hM.kept.block k hk hU)⟩, hbase, ?_, ?_, fun k o hk => by rw [hb.block k (hZB k o hk)]; exact hM.fz k o hk, hM.ext, ?_⟩
  · intro r hr
    rcases List.mem_cons.1 hr with rfl | hr
    · exact ⟨.inl hBb, hv⟩
    · rcases List.mem_cons.1 hr with rfl | hr
      · exact ⟨Nat.one_pos, hl, _, ho, bytesRep Z ys⟩
      · cases hr
  · refine List.Pairwise.cons (fun s hs k hk hc => ?_) (List.Pairwise.cons (by simp) List.Pairwise.nil)
    simp only [List.mem_cons, List.not_mem_nil, or_false] at hs
    subst hs
    have hkb : k = b := by simpa [Res.foot, eq_comm] using hk
    exact (hfb k hc).2 hkb
  · intro r hr k hk
    have hBk : B ≤ k := by
      rcases List.mem_cons.1 hr with rfl | hr
      · have : k = b := by simpa [Res.foot, eq_comm] using hk
        omega
      · rcases List.mem_cons.1 hr with rfl | hr
        · exact (hfb k hk).1
        · cases hr
    cases hz : Z k with
    | none => rfl
    | some o => have := hZB k o hz; omega
theorem Mem.bldNil (hM : Mem B [] w0 Z [.row b [p, .slice none 0 0] T] Z w) (e : TypeId) : Mem B [] w0 Z (BldR b p T e none 0 []) Z w :=
  ((hM.addNil tyByte e Nat.one_pos).perm (List.Perm.swap _ _ _))
theorem bld_write (L : Lays.n166 P ρ) (X : Builder.Extra P ρ) {xs s : List UInt8} (hM : Mem B [] w0 Z (BldR b p (ρ.t 72) (ρ.t 5) ao cap xs) Z w) (hZB : ∀ k o, Z k = some o → k < B) (hp : p = .pointer none ∨ p = .pointer (some ⟨b, 0, none⟩)) (hl : xs.length + s.length ≤ 140737488355328) :
    Calls P (ρ.f 166) #[.pointer (some ⟨b, 0, none⟩), str s] w fun e w' => ∃ ao' cap', e = .returned (.tuple #[.int .i64 (s.length : Int), .nilIface]) ∧ Mem B [] w0 Z (BldR b (.pointer (some ⟨b, 0, none⟩)) (ρ.t 72) (ρ.t 5) ao' cap' (xs ++ s)) Z w' := by
  refine (Any.Builder_WriteString L X B b _ ⟨⟨s⟩⟩ w (bld_is hM hp) (by rw [Lib.byteCells_length]; exact hl) hM.base).mono fun e1 w1 ⟨he, hA, hb⟩ => ?_
  have e2 : Lib.byteCells xs ++ Lib.strCells ⟨⟨s⟩⟩ = Lib.byteCells (xs ++ s) := by simp [Lib.byteCells, Lib.strCells]
  rw [e2] at hA
  obtain ⟨ao', cap', h⟩ := bld_back hM hZB hA hb (by rw [List.length_append]; exact hl)
  exact ⟨ao', cap', he, h⟩
theorem bld_string (L : Lays.n169 P ρ) (X : Builder.Extra P ρ) {xs : List UInt8} (hM : Mem B [] w0 Z (BldR b p (ρ.t 72) (ρ.t 5) ao cap xs) Z w) (hZB : ∀ k o, Z k = some o → k < B) (hp : p = .pointer none ∨ p = .pointer (some ⟨b, 0, none⟩)) :
    Calls P (ρ.f 169) #[.pointer (some ⟨b, 0, none⟩)] w fun e w' => e = .returned (str xs) ∧ Mem B [] w0 Z [] Z w' := by
  refine (Any.Builder_String_any L X B b xs w (bld_is hM hp) hM.base).mono fun e1 w1 ⟨he, hb⟩ => ⟨he, ?_⟩
  exact ⟨⟨hM.kept.os ▸ hb.os, hM.kept.tape ▸ hb.tape, hM.kept.output ▸ hb.output, Nat.le_trans hM.kept.size hb.size, fun k hk hU => (hb.block k hk).trans (hM.kept.block k hk hU)⟩, Nat.le_trans hM.base hb.size, by simp, List.Pairwise.nil, fun k o hk => by rw [hb.block k (hZB k o hk)]; exact hM.fz k o hk, hM.ext, by simp⟩
theorem zB {w : World} (h : Z.on w) : ∀ k o, Z k = some o → k < w.heap.size := fun k o hk => lt_of_get (h k o hk)
end Go.Sy
namespace Go.Proofs
open Go.Shelf
def Tryd.lays166_ren : Go.Shelf.Ren := ⟨fun | 166 => 56 | 240 => 64 | 276 => 73 | n => n, fun | 37 => 67 | 70 => 94 | 72 => 96 | 75 => 98 | 80 => 101 | 164 => 119 | n => n, fun n => n⟩
theorem Tryd.lays166 : Lays.n166 Tryd.prog Tryd.lays166_ren := {
  mixed := by kernel_rfl
  f166 := Tryd.func56.trans (congrArg some (by kernel_rfl))
  f240 := Tryd.func64.trans (congrArg some (by kernel_rfl))
  f276 := Tryd.func73.trans (congrArg some (by kernel_rfl))
  t0 := Tryd.underlying0
  a0 := Tryd.isAgg0
  z0 := Tryd.sizeOf0
  v0 := Tryd.zeroValue0
  t3 := Tryd.underlying3
  a3 := Tryd.isAgg3
  z3 := Tryd.sizeOf3
  v3 := Tryd.zeroValue3
  t4 := Tryd.underlying4
  a4 := Tryd.isAgg4
  z4 := Tryd.sizeOf4
  v4 := Tryd.zeroValue4
  t9 := Tryd.underlying9
  a9 := Tryd.isAgg9
  z9 := Tryd.sizeOf9
  v9 := Tryd.zeroValue9
  t20 := Tryd.underlying20
  a20 := Tryd.isAgg20
  z20 := Tryd.sizeOf20
  v20 := Tryd.zeroValue20
  t37 := Tryd.underlying67
  a37 := Tryd.isAgg67
  z37 := Tryd.sizeOf67
  v37 := Tryd.zeroValue67
  t70 := Tryd.underlying94
  a70 := Tryd.isAgg94
  z70 := Tryd.sizeOf94
  v70 := Tryd.zeroValue94
  t72 := Tryd.underlying96
  a72 := Tryd.isAgg96
  z72 := Tryd.sizeOf96
  v72 := Tryd.zeroValue96
  t75 := Tryd.underlying98
  a75 := Tryd.isAgg98
  z75 := Tryd.sizeOf98
  v75 := Tryd.zeroValue98
  t164 := Tryd.underlying119
  a164 := Tryd.isAgg119
  z164 := Tryd.sizeOf119
  v164 := Tryd.zeroValue119 }
theorem Tryd.lays166X : Builder.Extra Tryd.prog Tryd.lays166_ren := {
  sizeBuilder := by kernel_rfl
  liesBuilder := by kernel_rfl
  t5 := by kernel_rfl
  a5 := fun w => by kernel_rfl
  z5 := fun w => by kernel_rfl
  v5 := fun w => by kernel_rfl
  infoByte := by kernel_rfl
  cellsByte := by kernel_rfl
  sizeByte := by kernel_rfl
  neB5 := by decide }

def Tryd.lays169_ren : Go.Shelf.Ren := ⟨fun | 169 => 57 | n => n, fun | 37 => 67 | 70 => 94 | 72 => 96 | 127 => 107 | n => n, fun n => n⟩
theorem Tryd.lays169 : Lays.n169 Tryd.prog Tryd.lays169_ren := {
  mixed := by kernel_rfl
  f169 := Tryd.func57.trans (congrArg some (by kernel_rfl))
  t0 := Tryd.underlying0
  a0 := Tryd.isAgg0
  z0 := Tryd.sizeOf0
  v0 := Tryd.zeroValue0
  t3 := Tryd.underlying3
  a3 := Tryd.isAgg3
  z3 := Tryd.sizeOf3
  v3 := Tryd.zeroValue3
  t9 := Tryd.underlying9
  a9 := Tryd.isAgg9
  z9 := Tryd.sizeOf9
  v9 := Tryd.zeroValue9
  t37 := Tryd.underlying67
  a37 := Tryd.isAgg67
  z37 := Tryd.sizeOf67
  v37 := Tryd.zeroValue67
  t70 := Tryd.underlying94
  a70 := Tryd.isAgg94
  z70 := Tryd.sizeOf94
  v70 := Tryd.zeroValue94
  t72 := Tryd.underlying96
  a72 := Tryd.isAgg96
  z72 := Tryd.sizeOf96
  v72 := Tryd.zeroValue96
  t127 := Tryd.underlying107
  a127 := Tryd.isAgg107
  z127 := Tryd.sizeOf107
  v127 := Tryd.zeroValue107 }
theorem Tryd.lays169X : Builder.Extra Tryd.prog Tryd.lays169_ren := {
  sizeBuilder := by kernel_rfl
  liesBuilder := by kernel_rfl
  t5 := by kernel_rfl
  a5 := fun w => by kernel_rfl
  z5 := fun w => by kernel_rfl
  v5 := fun w => by kernel_rfl
  infoByte := by kernel_rfl
  cellsByte := by kernel_rfl
  sizeByte := by kernel_rfl
  neB5 := by decide }

end Go.Proofs
set_option linter.unusedVariables false
set_option linter.unusedSimpArgs false
set_option maxRecDepth 100000
set_option maxHeartbeats 0
namespace Go.Proofs.YtginlmgkimfjmaaDoor
open Go.Sy Go.RowKit
theorem mixed : Tryd.prog.follows .mixedOrders = true := by kernel_rfl
theorem rdFrame : Rd Tryd.prog 69 tyFrame okFrame := by
  refine ⟨fun enc w fuel cs x h hw => ?_⟩
  have hu : Tryd.prog.underlying 69 = some (.struct _) := Tryd.underlying69
  have hl := rd_len hu h (m := 6) (by kernel_rfl)
  obtain ⟨j, o, p⟩ := rd_field hu h hw 0 rfl (rd_int (P := Tryd.prog) (t := 3) (k := .i64) (by kernel_rfl)) (m := 1) (by kernel_rfl) (off := 0) rfl
  have q : (cs.drop 0).take 1 = [i6 j] := o
  obtain ⟨i, r, s⟩ := rd_field hu h hw 1 rfl (rd_bool (P := Tryd.prog) (t := 4) (by kernel_rfl)) (m := 1) (by kernel_rfl) (off := 1) rfl
  have u : (cs.drop 1).take 1 = [.bool i] := r
  obtain ⟨g, v, y⟩ := rd_field hu h hw 2 rfl (rd_bool (P := Tryd.prog) (t := 4) (by kernel_rfl)) (m := 1) (by kernel_rfl) (off := 2) rfl
  have A : (cs.drop 2).take 1 = [.bool g] := v
  obtain ⟨f, B, C⟩ := rd_field hu h hw 3 rfl (rd_bool (P := Tryd.prog) (t := 4) (by kernel_rfl)) (m := 1) (by kernel_rfl) (off := 3) rfl
  have D : (cs.drop 3).take 1 = [.bool f] := B
  obtain ⟨d, E, F⟩ := rd_field hu h hw 4 rfl (rd_int (P := Tryd.prog) (t := 3) (k := .i64) (by kernel_rfl)) (m := 1) (by kernel_rfl) (off := 4) rfl
  have G : (cs.drop 4).take 1 = [i6 d] := E
  obtain ⟨a, l, H⟩ := rd_field hu h hw 5 rfl (rd_slice (P := Tryd.prog) (t := 67) (e := 5) (bytes := 1) (by kernel_rfl) (rd_int (P := Tryd.prog) (t := 5) (k := .u8) (by kernel_rfl))) (m := 1) (by kernel_rfl) (off := 5) rfl
  obtain ⟨b, c, l, I⟩ := l
  have J : (cs.drop 5).take 1 = [.slice b a.length c] := l
  have z : cs.drop 6 = [] := List.drop_eq_nil_of_le (by omega)
  have K : cs.drop 5 = [.slice b a.length c] := by rw [show cs.drop 5 = (cs.drop 5).take 1 ++ cs.drop 6 from cut_at cs 5 1, J, z]; rfl
  have L : cs.drop 4 = [i6 d, .slice b a.length c] := by rw [show cs.drop 4 = (cs.drop 4).take 1 ++ cs.drop 5 from cut_at cs 4 1, G, K]; rfl
  have M : cs.drop 3 = [.bool f, i6 d, .slice b a.length c] := by rw [show cs.drop 3 = (cs.drop 3).take 1 ++ cs.drop 4 from cut_at cs 3 1, D, L]; rfl
  have N : cs.drop 2 = [.bool g, .bool f, i6 d, .slice b a.length c] := by rw [show cs.drop 2 = (cs.drop 2).take 1 ++ cs.drop 3 from cut_at cs 2 1, A, M]; rfl
  have O : cs.drop 1 = [.bool i, .bool g, .bool f, i6 d, .slice b a.length c] := by rw [show cs.drop 1 = (cs.drop 1).take 1 ++ cs.drop 2 from cut_at cs 1 1, u, N]; rfl
  have n : cs.drop 0 = [i6 j, .bool i, .bool g, .bool f, i6 d, .slice b a.length c] := by rw [show cs.drop 0 = (cs.drop 0).take 1 ++ cs.drop 1 from cut_at cs 0 1, q, O]; rfl
  refine ⟨⟨j, i, g, f, d, a⟩, ?_, p, s, y, C, F, H⟩
  rw [List.drop_zero] at n
  exact ⟨b, c, n, I⟩

theorem rdTask : Rd Tryd.prog 32 tyTask okTask := by
  refine ⟨fun enc w fuel cs x h hw => ?_⟩
  have hu : Tryd.prog.underlying 32 = some (.struct _) := Tryd.underlying32
  have hl := rd_len hu h (m := 5) (by kernel_rfl)
  obtain ⟨e, g, i⟩ := rd_field hu h hw 0 rfl (rd_int (P := Tryd.prog) (t := 3) (k := .i64) (by kernel_rfl)) (m := 1) (by kernel_rfl) (off := 0) rfl
  have j : (cs.drop 0).take 1 = [i6 e] := g
  obtain ⟨d, l, n⟩ := rd_field hu h hw 1 rfl (rd_int (P := Tryd.prog) (t := 3) (k := .i64) (by kernel_rfl)) (m := 1) (by kernel_rfl) (off := 1) rfl
  have o : (cs.drop 1).take 1 = [i6 d] := l
  obtain ⟨c, p, q⟩ := rd_field hu h hw 2 rfl (rd_int (P := Tryd.prog) (t := 3) (k := .i64) (by kernel_rfl)) (m := 1) (by kernel_rfl) (off := 2) rfl
  have r : (cs.drop 2).take 1 = [i6 c] := p
  obtain ⟨b, s, u⟩ := rd_field hu h hw 3 rfl (rd_int (P := Tryd.prog) (t := 3) (k := .i64) (by kernel_rfl)) (m := 1) (by kernel_rfl) (off := 3) rfl
  have v : (cs.drop 3).take 1 = [i6 b] := s
  obtain ⟨a, y, A⟩ := rd_field hu h hw 4 rfl (rd_int (P := Tryd.prog) (t := 3) (k := .i64) (by kernel_rfl)) (m := 1) (by kernel_rfl) (off := 4) rfl
  have B : (cs.drop 4).take 1 = [i6 a] := y
  have z : cs.drop 5 = [] := List.drop_eq_nil_of_le (by omega)
  have C : cs.drop 4 = [i6 a] := by rw [show cs.drop 4 = (cs.drop 4).take 1 ++ cs.drop 5 from cut_at cs 4 1, B, z]; rfl
  have D : cs.drop 3 = [i6 b, i6 a] := by rw [show cs.drop 3 = (cs.drop 3).take 1 ++ cs.drop 4 from cut_at cs 3 1, v, C]; rfl
  have E : cs.drop 2 = [i6 c, i6 b, i6 a] := by rw [show cs.drop 2 = (cs.drop 2).take 1 ++ cs.drop 3 from cut_at cs 2 1, r, D]; rfl
  have F : cs.drop 1 = [i6 d, i6 c, i6 b, i6 a] := by rw [show cs.drop 1 = (cs.drop 1).take 1 ++ cs.drop 2 from cut_at cs 1 1, o, E]; rfl
  have f : cs.drop 0 = [i6 e, i6 d, i6 c, i6 b, i6 a] := by rw [show cs.drop 0 = (cs.drop 0).take 1 ++ cs.drop 1 from cut_at cs 0 1, j, F]; rfl
  refine ⟨⟨e, d, c, b, a⟩, ?_, i, n, q, u, A⟩
  rw [List.drop_zero] at f
  exact f

theorem rdStop : Rd Tryd.prog 36 tyStop okStop := by
  refine ⟨fun enc w fuel cs x h hw => ?_⟩
  have hu : Tryd.prog.underlying 36 = some (.struct _) := Tryd.underlying36
  have hl := rd_len hu h (m := 2) (by kernel_rfl)
  obtain ⟨b, d, e⟩ := rd_field hu h hw 0 rfl (rd_int (P := Tryd.prog) (t := 3) (k := .i64) (by kernel_rfl)) (m := 1) (by kernel_rfl) (off := 0) rfl
  have f : (cs.drop 0).take 1 = [i6 b] := d
  obtain ⟨a, g, i⟩ := rd_field hu h hw 1 rfl (rd_bool (P := Tryd.prog) (t := 4) (by kernel_rfl)) (m := 1) (by kernel_rfl) (off := 1) rfl
  have j : (cs.drop 1).take 1 = [.bool a] := g
  have z : cs.drop 2 = [] := List.drop_eq_nil_of_le (by omega)
  have l : cs.drop 1 = [.bool a] := by rw [show cs.drop 1 = (cs.drop 1).take 1 ++ cs.drop 2 from cut_at cs 1 1, j, z]; rfl
  have c : cs.drop 0 = [i6 b, .bool a] := by rw [show cs.drop 0 = (cs.drop 0).take 1 ++ cs.drop 1 from cut_at cs 0 1, f, l]; rfl
  refine ⟨⟨b, a⟩, ?_, e, i⟩
  rw [List.drop_zero] at c
  exact c

theorem rdKind : Rd Tryd.prog 87 tyKind okKind := by
  refine ⟨fun enc w fuel cs x h hw => ?_⟩
  have hu : Tryd.prog.underlying 87 = some (.struct _) := Tryd.underlying87
  have hl := rd_len hu h (m := 4) (by kernel_rfl)
  obtain ⟨d, f, g⟩ := rd_field hu h hw 0 rfl (rd_int (P := Tryd.prog) (t := 3) (k := .i64) (by kernel_rfl)) (m := 1) (by kernel_rfl) (off := 0) rfl
  have i : (cs.drop 0).take 1 = [i6 d] := f
  obtain ⟨c, j, l⟩ := rd_field hu h hw 1 rfl (rd_int (P := Tryd.prog) (t := 85) (k := .u64) (by kernel_rfl)) (m := 1) (by kernel_rfl) (off := 1) rfl
  have n : (cs.drop 1).take 1 = [y6 c] := j
  obtain ⟨b, o, p⟩ := rd_field hu h hw 2 rfl (rd_int (P := Tryd.prog) (t := 85) (k := .u64) (by kernel_rfl)) (m := 1) (by kernel_rfl) (off := 2) rfl
  have q : (cs.drop 2).take 1 = [y6 b] := o
  obtain ⟨a, r, s⟩ := rd_field hu h hw 3 rfl (rd_int (P := Tryd.prog) (t := 85) (k := .u64) (by kernel_rfl)) (m := 1) (by kernel_rfl) (off := 3) rfl
  have u : (cs.drop 3).take 1 = [y6 a] := r
  have z : cs.drop 4 = [] := List.drop_eq_nil_of_le (by omega)
  have v : cs.drop 3 = [y6 a] := by rw [show cs.drop 3 = (cs.drop 3).take 1 ++ cs.drop 4 from cut_at cs 3 1, u, z]; rfl
  have y : cs.drop 2 = [y6 b, y6 a] := by rw [show cs.drop 2 = (cs.drop 2).take 1 ++ cs.drop 3 from cut_at cs 2 1, q, v]; rfl
  have A : cs.drop 1 = [y6 c, y6 b, y6 a] := by rw [show cs.drop 1 = (cs.drop 1).take 1 ++ cs.drop 2 from cut_at cs 1 1, n, y]; rfl
  have e : cs.drop 0 = [i6 d, y6 c, y6 b, y6 a] := by rw [show cs.drop 0 = (cs.drop 0).take 1 ++ cs.drop 1 from cut_at cs 0 1, i, A]; rfl
  refine ⟨⟨d, c, b, a⟩, ?_, g, l, p, s⟩
  rw [List.drop_zero] at e
  exact e

theorem rdSlot : Rd Tryd.prog 47 tySlot okSlot := by
  refine ⟨fun enc w fuel cs x h hw => ?_⟩
  have hu : Tryd.prog.underlying 47 = some (.struct _) := Tryd.underlying47
  have hl := rd_len hu h (m := 4) (by kernel_rfl)
  obtain ⟨d, f, g⟩ := rd_field hu h hw 0 rfl (rd_int (P := Tryd.prog) (t := 3) (k := .i64) (by kernel_rfl)) (m := 1) (by kernel_rfl) (off := 0) rfl
  have i : (cs.drop 0).take 1 = [i6 d] := f
  obtain ⟨c, j, l⟩ := rd_field hu h hw 1 rfl (rd_int (P := Tryd.prog) (t := 3) (k := .i64) (by kernel_rfl)) (m := 1) (by kernel_rfl) (off := 1) rfl
  have n : (cs.drop 1).take 1 = [i6 c] := j
  obtain ⟨b, o, p⟩ := rd_field hu h hw 2 rfl (rd_int (P := Tryd.prog) (t := 3) (k := .i64) (by kernel_rfl)) (m := 1) (by kernel_rfl) (off := 2) rfl
  have q : (cs.drop 2).take 1 = [i6 b] := o
  obtain ⟨a, r, s⟩ := rd_field hu h hw 3 rfl (rd_int (P := Tryd.prog) (t := 3) (k := .i64) (by kernel_rfl)) (m := 1) (by kernel_rfl) (off := 3) rfl
  have u : (cs.drop 3).take 1 = [i6 a] := r
  have z : cs.drop 4 = [] := List.drop_eq_nil_of_le (by omega)
  have v : cs.drop 3 = [i6 a] := by rw [show cs.drop 3 = (cs.drop 3).take 1 ++ cs.drop 4 from cut_at cs 3 1, u, z]; rfl
  have y : cs.drop 2 = [i6 b, i6 a] := by rw [show cs.drop 2 = (cs.drop 2).take 1 ++ cs.drop 3 from cut_at cs 2 1, q, v]; rfl
  have A : cs.drop 1 = [i6 c, i6 b, i6 a] := by rw [show cs.drop 1 = (cs.drop 1).take 1 ++ cs.drop 2 from cut_at cs 1 1, n, y]; rfl
  have e : cs.drop 0 = [i6 d, i6 c, i6 b, i6 a] := by rw [show cs.drop 0 = (cs.drop 0).take 1 ++ cs.drop 1 from cut_at cs 0 1, i, A]; rfl
  refine ⟨⟨d, c, b, a⟩, ?_, g, l, p, s⟩
  rw [List.drop_zero] at e
  exact e

theorem bwrite_walk (u0 : Int) (u1 : Int)  (Z : Fz) (w : World)  (hZ : Z.on w) {K : (List UInt8) → Prop} (hp : bwrite_vc u0 u1 K) : Calls Tryd.prog 50 #[y6 u0, i6 u1] w fun e w' => ∃ r : (List UInt8), e = .returned (str r) ∧ K r ∧ Below w.heap.size w w' := by
 refine enter0 Tryd.func50 rfl rfl (by kernel_rfl) ?_; intro a0 q; have l := Mem.start w Z hZ; have aw := Fz.le.refl Z
 refine sqB q l [] [] [] ?_; intro a2 v; clear q
 refine sqH ?_; intro V x
 refine s1 v 7 (i6 u1) ?_; intro a5 y; clear v
 obtain ⟨ax, W⟩ := hp
 refine mks y l (T := t8) u1 u1 (k := .i64) (k' := .i64) (e := 5) (bytes := 1) (zs := [y8 0]) (z := 0) (by simp only [lim]; omega) (nog rfl _) rfl (by kernel_rfl) rfl (by kernel_rfl) (by kernel_rfl) (by kernel_rfl) (by kernel_rfl) rfl ?_; intro b ay X A B; clear y l
 have m : Mem w.heap.size [] w Z [.own t8 5 (sm b) u1.toNat (List.replicate u1.toNat (0 : Int))] Z X := B; clear B
 refine s1 A 5 (.slice (sm b) (List.replicate u1.toNat (0 : Int)).length u1.toNat) ?_; intro az C; clear A
 refine nlH (x _ _ ?_); clear x V
 refine wp_seq ?_
 refine sqB C m [] [] [(9, i6 u1), (10, i6 0)] ?_; intro D E; clear C
 refine wp_block ?_
 have F : Fr 28 [] [⟨0, [], y6 u0⟩, ⟨1, [], i6 u1⟩, ⟨5, [], .slice (sm b) (List.replicate u1.toNat (0 : Int)).length u1.toNat⟩, ⟨9, [], i6 u1⟩, ⟨10, [], i6 0⟩] D := E.region (by kernel_rfl) (by kernel_rfl); clear E
 have G : Fr 28 [] [⟨0, [], y6 u0⟩, ⟨1, [], i6 u1⟩, ⟨5, [], .slice (sm b) (List.replicate u1.toNat (0 : Int)).length u1.toNat⟩, ⟨9, [], i6 u1⟩, ⟨10, [], i6 0⟩] D := F.region (by kernel_rfl) (by kernel_rfl); clear F
 obtain ⟨Y, aa, ab, ac⟩ := W
 refine lp (ι := Int × Int × (List Int)) (fun s => [⟨0, [], y6 s.1⟩, ⟨1, [], i6 u1⟩, ⟨5, [], .slice (sm b) s.2.2.length u1.toNat⟩, ⟨9, [], i6 u1⟩, ⟨10, [], i6 s.2.1⟩]) (fun s => [.own t8 5 (sm b) u1.toNat s.2.2]) (fun s => Z) (fun s => Y s.1 s.2.1 s.2.2) (fun s => aa s.1 s.2.1 s.2.2) ⟨u0, 0, (List.replicate u1.toNat (0 : Int))⟩ ab (by exact G.region (by kernel_rfl) (by kernel_rfl)) (by exact m) ?_
 rintro ⟨d, a, c⟩ ad ae af H I
 have J : Fr 28 [] [⟨0, [], y6 d⟩, ⟨1, [], i6 u1⟩, ⟨5, [], .slice (sm b) c.length u1.toNat⟩, ⟨9, [], i6 u1⟩, ⟨10, [], i6 a⟩] ae := H; clear H G
 have f : Mem w.heap.size [] w Z [.own t8 5 (sm b) u1.toNat c] Z af := I; clear I m
 have i := ac d a c ad
 refine sqB J f [] [] [(11, .bool (decide (a < u1)))] ?_; intro aA h; clear J
 refine wp_seq ?_
 refine cd h (t := decide (a < u1)) (by kernel_rfl) (fun n => ?_) (fun n => ?_)
 · -- yes
  have ag := i.1 n; clear i
  refine wp_skip ?_
  refine thn ?_
  refine wp_seq ?_
  refine wp_block ?_
  refine sqB h f [] [] [(6, i6 a)] ?_; intro aB L; clear h
  refine sqH ?_; intro ah M
  refine bt L f 9 [] [] [(13, .slice (sm b) c.length u1.toNat), (17, i6 (w64 ((w64 (u1 - 1)) - a))), (21, y8 (w8 (48 + (w8 (bAnd .u64 d 1)))))] ?_; intro aC N; clear L
  obtain ⟨ai, O⟩ := ag
  refine ixo N f 0 (T := t8) (xs := c) (w64 ((w64 (u1 - 1)) - a)) ai (k := .i64) (e := 5) (bytes := 1) (nog rfl _) rfl (by kernel_rfl) rfl (by kernel_rfl) (by kernel_rfl) rfl (by kernel_rfl) ?_; intro aj ak al j; clear N
  obtain rfl : b = aj := by simpa using al
  refine so j f 0 (T := t8) (xs := c) (w64 ((w64 (u1 - 1)) - a)).toNat (w8 (48 + (w8 (bAnd .u64 d 1)))) (u := y8 (w8 (48 + (w8 (bAnd .u64 d 1))))) (nog rfl _) rfl rfl (by kernel_rfl) rfl (by kernel_rfl) rfl (by kernel_rfl) (by first | omega | (simp only [List.length_set] at *; omega)) rfl ?_; intro am P; clear f
  have Q : Fr 28 [] [⟨0, [], y6 d⟩, ⟨1, [], i6 u1⟩, ⟨5, [], .slice (sm b) (c.set (w64 ((w64 (u1 - 1)) - a)).toNat (w8 (48 + (w8 (bAnd .u64 d 1))))).length u1.toNat⟩, ⟨6, [], i6 a⟩, ⟨9, [], i6 u1⟩, ⟨10, [], i6 a⟩, ⟨11, [], .bool (decide (a < u1))⟩, ⟨13, [], .slice (sm b) (c.set (w64 ((w64 (u1 - 1)) - a)).toNat (w8 (48 + (w8 (bAnd .u64 d 1))))).length u1.toNat⟩, ⟨17, [], i6 (w64 ((w64 (u1 - 1)) - a))⟩, ⟨21, [], y8 (w8 (48 + (w8 (bAnd .u64 d 1))))⟩, ⟨22, [], .pointer (some ⟨b, (w64 ((w64 (u1 - 1)) - a)).toNat * 1, none⟩)⟩] ak := by (try simp only [List.length_set] at j); (try simp only [List.length_set]); exact j.region (by kernel_rfl) (by kernel_rfl)
  clear j
  have o : Mem w.heap.size [] w Z [.own t8 5 (sm b) u1.toNat (c.set (w64 ((w64 (u1 - 1)) - a)).toNat (w8 (48 + (w8 (bAnd .u64 d 1)))))] Z am := P; clear P
  refine nlH (M _ _ ?_); clear M ah
  refine rgB Q o [] [] [(0, y6 (bShr .u64 d 1))] ?_; intro aD R; clear Q
  refine ibn ?_
  refine thn ?_
  refine rgB R o [] [] [(10, i6 (w64 (a + 1)))] ?_; intro aE an; clear R
  refine rd ?_
  exact ⟨⟨bShr .u64 d 1, w64 (a + 1), c.set (w64 ((w64 (u1 - 1)) - a)).toNat (w8 (48 + (w8 (bAnd .u64 d 1))))⟩, O.1, O.2, (an.region (by kernel_rfl) (by kernel_rfl)).anyβ _ (by kernel_rfl), o.keep (List.Sublist.cons_cons _ (List.Sublist.slnil))⟩
 · -- no
  have ap := i.2 n; clear i
  refine wp_exit ?_
  refine thx ?_
  refine thx ?_
  refine ibx ?_
  refine thn ?_
  refine sqH ?_; intro aq S
  refine s1 h 26 (.slice (sm b) c.length u1.toNat) ?_; intro aF p; clear h
  refine st p (str (bstr c)) (nog rfl _) rfl (by kernel_rfl) ((by obtain ⟨Z9, aG, ar, au⟩ := f.lend 0 rfl; exact bstr_op p (g := []) (e := 5) (ao := (sm b)) (cap := u1.toNat) (xs := c) rfl (by kernel_rfl) (by kernel_rfl) (by kernel_rfl) (by kernel_rfl)  au ar rfl)) ?_; intro aH U; clear p
  refine s1 U 4 (str (bstr c)) ?_; intro aI av; clear U
  refine nlH (S _ _ ?_); clear S aq
  refine wp_ret ?_
  refine ra1 av (str (bstr c)) ?_
  exact ⟨bstr c, rfl, ap, f.below⟩

end Go.Proofs.YtginlmgkimfjmaaDoor
set_option linter.unusedVariables false
set_option linter.unusedSimpArgs false
set_option maxRecDepth 100000
set_option maxHeartbeats 0
namespace Go.Proofs.YtginlmgkimfjmaaDoor
open Go.Sy Go.RowKit
theorem bwrite_fun (u0 : Int) (u1 : Int) (hpre : 0 ≤ u1 ∧ u1 ≤ 64 ∧ 0 ≤ u0 ∧ u0 < 2 ^ 62)  (Z : Fz) (w : World)  (hZ : Z.on w) : Calls Tryd.prog 50 #[y6 u0, i6 u1] w fun e w' => e = .returned (str (bwriteS u0 u1)) ∧ Below w.heap.size w w' :=
  (bwrite_walk u0 u1  Z w  hZ (bwrite_ok u0 u1 hpre)).mono fun _ _ ⟨r, he, hk, hb⟩ => ⟨by subst hk; exact he, hb⟩

theorem bof_walk (u0 : List Int) (ao1 : Option Addr) (cap2 : Nat) (Z : Fz) (w : World) (hs3 : SlR t8 Z ao1 cap2 u0) (hZ : Z.on w) {K : ((List UInt8) × Int) → Prop} (hp : bof_vc u0 K) : Calls Tryd.prog 49 #[.slice ao1 u0.length cap2] w fun e w' => ∃ r : (List UInt8) × Int, e = .returned (.tuple #[str r.1, i6 r.2]) ∧ K r ∧ Below w.heap.size w w' := by
 refine enter0 Tryd.func49 rfl rfl (by kernel_rfl) ?_; intro a0 u; have g := Mem.start w Z hZ; have aL := Fz.le.refl Z
 have hzB := Go.Sy.zB hZ
 have j := hp (hs3.small); clear hp
 refine sqB u g [] [] [] ?_; intro a8 v; clear u
 refine wp_seq ?_
 refine sqB v g [] [] [(9, .bool (decide ((u0.length : Int) > 125)))] ?_; intro aM h; clear v
 refine cd h (t := decide ((u0.length : Int) > 125)) (by kernel_rfl) (fun m => ?_) (fun m => ?_)
 · -- yes
  have ae := j.1 m; clear j
  refine sqB h g [] [] [(2, str []), (3, i6 2)] ?_; intro aN af; clear h
  refine wp_ret ?_
  refine thr ?_
  refine ra2 af (.tuple #[str [], i6 2]) ?_
  exact ⟨([], 2), rfl, ae, g.below⟩
 · -- no
  have ag := j.2 m; clear j
  refine wp_skip ?_
  refine thn ?_
  refine sqH ?_; intro ah x
  refine nw h g pb [.pointer none, .slice none 0 0] 96 ?_; intro a aO ai y n; clear h g
  refine nlH (x _ _ ?_); clear x ah
  refine wp_seq ?_
  refine sqB y n [] [] [(10, .slice ao1 u0.length cap2), (11, i6 (u0.length : Int)), (12, i6 0)] ?_; intro z A; clear y
  refine wp_block ?_
  have B : Fr 22 [] [⟨4, [], pt a 0⟩, ⟨10, [], .slice ao1 u0.length cap2⟩, ⟨11, [], i6 (u0.length : Int)⟩, ⟨12, [], i6 0⟩] z := A.region (by kernel_rfl) (by kernel_rfl); clear A
  have C : Mem w.heap.size [] w Z [.row a [.pointer none, .slice none ([] : List UInt8).length 0] 96, .own tyByte 5 none 0 ([] : List UInt8)] Z ai := n.bldNil 5; clear n
  have D : Fr 22 [] [⟨4, [], pt a 0⟩, ⟨10, [], .slice ao1 u0.length cap2⟩, ⟨11, [], i6 (u0.length : Int)⟩, ⟨12, [], i6 0⟩] z := B.region (by kernel_rfl) (by kernel_rfl); clear B
  obtain ⟨aj, ak, al, am⟩ := ag
  refine lp (ι := Int × (List UInt8) × Value × (Option Addr) × Nat) (fun s => [⟨4, [], pt a 0⟩, ⟨10, [], .slice ao1 u0.length cap2⟩, ⟨11, [], i6 (u0.length : Int)⟩, ⟨12, [], i6 s.1⟩]) (fun s => [.row a [s.2.2.1, .slice s.2.2.2.1 s.2.1.length s.2.2.2.2] 96, .own tyByte 5 s.2.2.2.1 s.2.2.2.2 s.2.1]) (fun s => Z) (fun s => aj s.1 s.2.1 ∧ (s.2.2.1 = .pointer none ∨ s.2.2.1 = pt a 0)) (fun s => ak s.1 s.2.1) ⟨0, ([] : List UInt8), (.pointer none), none, 0⟩ ⟨al, (.inl rfl)⟩ (by exact D.region (by kernel_rfl) (by kernel_rfl)) (by exact C) ?_
  rintro ⟨f, c, an, E, F⟩ ⟨ao, G⟩ ap aq H I
  have J : Fr 22 [] [⟨4, [], pt a 0⟩, ⟨10, [], .slice ao1 u0.length cap2⟩, ⟨11, [], i6 (u0.length : Int)⟩, ⟨12, [], i6 f⟩] ap := H; clear H D
  have d : Mem w.heap.size [] w Z [.row a [an, .slice E c.length F] 96, .own tyByte 5 E F c] Z aq := I; clear I C
  have l := am f c ao
  refine sqB J d [] [] [(13, .bool (decide (f < (u0.length : Int))))] ?_; intro aP i; clear J
  refine wp_seq ?_
  refine cd i (t := decide (f < (u0.length : Int))) (by kernel_rfl) (fun o => ?_) (fun o => ?_)
  · -- yes
   have ar := l.1 o; clear l
   refine wp_skip ?_
   refine thn ?_
   refine wp_seq ?_
   refine wp_block ?_
   refine sqH ?_; intro au L
   obtain ⟨av, M⟩ := ar
   refine ix i (T := t8) (xs := u0) hs3 f av (k := .i64) (e := 5) (bytes := 1) (nog rfl _) rfl (by kernel_rfl) rfl (by kernel_rfl) (by kernel_rfl) (by kernel_rfl) ?_; intro aQ aR aw b aS ax ay az N; clear i
   have aA := M b ax; clear M
   obtain rfl : aw = ([y8 b] : List Value) := az
   refine z1 N d 15 ay 0 (y8 b) rfl ?_; intro aT O; clear N
   refine s1 O 6 (y8 b) ?_; intro aU P; clear O
   refine nlH (L _ _ ?_); clear L au
   refine rgH ?_; intro aB Q
   refine bt P d 2 [] [] [(17, y6 (wu64 b))] ?_; intro aV R; clear P
   obtain ⟨aC, aD⟩ := aA
   refine fc R d (bwrite_fun (wu64 b) 8 aC _ _ d.fz) ?_; intro aW aX S U; clear R d
   obtain ⟨aE, V⟩ := aD
   refine ck S 56 #[pt a 0, str (bwriteS (wu64 b) 8)] ?_
   refine (Go.Sy.bld_write Tryd.lays166 Tryd.lays166X U hzB G aE).mono ?_; rintro _ aF ⟨p, q, rfl, hm⟩; refine ⟨_, rfl, ?_⟩; intro aY W; have X := hm; clear hm U S
   have Y : Mem w.heap.size [] w Z [.row a [pt a 0, .slice p (c ++ (bwriteS (wu64 b) 8)).length q] 96, .own tyByte 5 p q (c ++ (bwriteS (wu64 b) 8))] Z aF := X; clear X
   refine nlH (Q _ _ ?_); clear Q aB
   refine ibn ?_
   refine thn ?_
   refine rgB W Y [] [] [(12, i6 (w64 (f + 1)))] ?_; intro aZ aG; clear W
   refine rd ?_
   exact ⟨⟨w64 (f + 1), c ++ (bwriteS (wu64 b) 8), (pt a 0), p, q⟩, ⟨V.1, (.inr rfl)⟩, V.2, (aG.region (by kernel_rfl) (by kernel_rfl)).anyβ _ (by kernel_rfl), Y.keep (List.Sublist.cons_cons _ (List.Sublist.cons_cons _ (List.Sublist.slnil)))⟩
  · -- no
   have aH := l.2 o; clear l
   refine wp_exit ?_
   refine thx ?_
   refine thx ?_
   refine ibx ?_
   refine thn ?_
   refine sqH ?_; intro aI aa
   refine ck i 57 #[pt a 0] ?_
   refine (Go.Sy.bld_string Tryd.lays169 Tryd.lays169X d hzB G).mono ?_; rintro _ aJ ⟨rfl, hm⟩; refine ⟨_, rfl, ?_⟩; intro a1 ab; have ac := hm; clear hm d i
   have ad : Mem w.heap.size [] w Z [] Z aJ := ac; clear ac
   refine bt ab ad 2 [] [] [(2, str c), (3, i6 0)] ?_; intro a2 aK; clear ab
   refine nlH (aa _ _ ?_); clear aa aI
   refine wp_ret ?_
   refine ra2 aK (.tuple #[str c, i6 0]) ?_
   exact ⟨(c, 0), rfl, aH, ad.below⟩

end Go.Proofs.YtginlmgkimfjmaaDoor
set_option linter.unusedVariables false
set_option linter.unusedSimpArgs false
set_option maxRecDepth 100000
set_option maxHeartbeats 0
namespace Go.Proofs.YtginlmgkimfjmaaDoor
open Go.Sy Go.RowKit
abbrev e69Dc (X : Frame) (A0 : Option Addr) (C0 : Nat) : List Value := [i6 X.ID, .bool X.Long, .bool X.Fast, .bool X.Remote, i6 X.Size, .slice A0 X.Data.length C0]
abbrev e32Dc (X : Task) : List Value := [i6 X.ID, i6 X.Bytes, i6 X.Every, i6 X.Late, i6 X.Jitter]
theorem bof_fun (u0 : List Int) (hpre : ∀ x ∈ u0, 0 ≤ x ∧ x ≤ 255) (ao1 : Option Addr) (cap2 : Nat) (Z : Fz) (w : World) (hs3 : SlR t8 Z ao1 cap2 u0) (hZ : Z.on w) : Calls Tryd.prog 49 #[.slice ao1 u0.length cap2] w fun e w' => e = .returned (.tuple #[str (bofS u0).1, i6 (bofS u0).2]) ∧ Below w.heap.size w w' :=
  (bof_walk u0 ao1 cap2 Z w hs3 hZ (bof_ok u0 hpre)).mono fun _ _ ⟨r, he, hk, hb⟩ => ⟨by subst hk; exact he, hb⟩

theorem fsizes_walk   (Z : Fz) (w : World)  (hZ : Z.on w) {K : (List Int) → Prop} (hp : fsizes_vc  K) : Calls Tryd.prog 47 #[] w fun e w' => ∃ (r : (List Int)) (ao1001 : Option Addr) (cap1002 : Nat) (Z' : Fz), e = .returned (.slice ao1001 r.length cap1002) ∧ K r ∧ Mem w.heap.size [] w Z [.own t6 3 ao1001 cap1002 r] Z' w' := by
 refine enter0 Tryd.func47 rfl rfl (by kernel_rfl) ?_; intro n d; have c := Mem.start w Z hZ; have o := Fz.le.refl Z
 refine sqB d c [] [] [] ?_; intro p f; clear d
 refine sqH ?_; intro j g
 refine nw f c (fun b => .slice (sm b) 16 16) [i6 0, i6 1, i6 2, i6 3, i6 4, i6 5, i6 6, i6 7, i6 8, i6 12, i6 16, i6 20, i6 24, i6 32, i6 48, i6 64] 3 ?_; intro a q k h i; clear f c
 refine s1 h 0 (.slice (sm a) 16 16) ?_; intro s l; clear h
 refine nlH (g _ _ ?_); clear g j
 refine wp_ret ?_
 have m : Mem w.heap.size [] w Z [.own t6 3 (sm a) 16 ([0, 1, 2, 3, 4, 5, 6, 7, 8, 12, 16, 20, 24, 32, 48, 64] : List Int)] Z k := i.rowOwn (T := t6) (xs := ([0, 1, 2, 3, 4, 5, 6, 7, 8, 12, 16, 20, 24, 32, 48, 64] : List Int)) 0 rfl (by decide) (by show 16 ≤ lim; decide) ((RepAll.one (T := t6) (x := 0) rfl).append ((RepAll.one (T := t6) (x := 1) rfl).append ((RepAll.one (T := t6) (x := 2) rfl).append ((RepAll.one (T := t6) (x := 3) rfl).append ((RepAll.one (T := t6) (x := 4) rfl).append ((RepAll.one (T := t6) (x := 5) rfl).append ((RepAll.one (T := t6) (x := 6) rfl).append ((RepAll.one (T := t6) (x := 7) rfl).append ((RepAll.one (T := t6) (x := 8) rfl).append ((RepAll.one (T := t6) (x := 12) rfl).append ((RepAll.one (T := t6) (x := 16) rfl).append ((RepAll.one (T := t6) (x := 20) rfl).append ((RepAll.one (T := t6) (x := 24) rfl).append ((RepAll.one (T := t6) (x := 32) rfl).append ((RepAll.one (T := t6) (x := 48) rfl).append (RepAll.one (T := t6) (x := 64) rfl)))))))))))))))); clear i
 refine ra1 l (.slice (sm a) ([0, 1, 2, 3, 4, 5, 6, 7, 8, 12, 16, 20, 24, 32, 48, 64] : List Int).length 16) ?_
 exact ⟨([0, 1, 2, 3, 4, 5, 6, 7, 8, 12, 16, 20, 24, 32, 48, 64] : List Int), (sm a), 16, Z, rfl, hp, m.keep (List.Sublist.cons_cons _ (List.Sublist.slnil))⟩
theorem fsizes_fun   (Z : Fz) (w : World)  (hZ : Z.on w) : Calls Tryd.prog 47 #[] w fun e w' => ∃ (ao1001 : Option Addr) (cap1002 : Nat) (Z' : Fz), e = .returned (.slice ao1001 fsizes.length cap1002) ∧ Mem w.heap.size [] w Z [.own t6 3 ao1001 cap1002 fsizes] Z' w' :=
  (fsizes_walk   Z w  hZ (fsizes_ok )).mono fun _ _ ⟨r, h0, h1, h2, he, hk, hm⟩ => by subst hk; exact ⟨h0, h1, h2, he, hm⟩

theorem fbit_walk (u0 : Bool)  (Z : Fz) (w : World)  (hZ : Z.on w) {K : (List UInt8) → Prop} (hp : fbit_vc u0 K) : Calls Tryd.prog 55 #[.bool u0] w fun e w' => ∃ r : (List UInt8), e = .returned (str r) ∧ K r ∧ Below w.heap.size w w' := by
 refine enter0 Tryd.func55 rfl rfl (by kernel_rfl) ?_; intro k d; have a := Mem.start w Z hZ; have l := Fz.le.refl Z
 refine sqB d a [] [] [] ?_; intro m f; clear d
 refine wp_seq ?_
 refine sqB f a [] [] [(3, .bool u0)] ?_; intro n b; clear f
 refine cd b (t := u0) (by kernel_rfl) (fun c => ?_) (fun c => ?_)
 · -- yes
  have g := hp.1 c; clear hp
  refine sqB b a [] [] [(2, str ([49] : List UInt8))] ?_; intro o h; clear b
  refine wp_ret ?_
  refine thr ?_
  refine ra1 h (str ([49] : List UInt8)) ?_
  exact ⟨([49] : List UInt8), rfl, g, a.below⟩
 · -- no
  have i := hp.2 c; clear hp
  refine wp_skip ?_
  refine thn ?_
  refine sqB b a [] [] [(2, str ([48] : List UInt8))] ?_; intro p j; clear b
  refine wp_ret ?_
  refine ra1 j (str ([48] : List UInt8)) ?_
  exact ⟨([48] : List UInt8), rfl, i, a.below⟩
theorem fbit_fun (u0 : Bool)  (Z : Fz) (w : World)  (hZ : Z.on w) : Calls Tryd.prog 55 #[.bool u0] w fun e w' => e = .returned (str (fbit u0)) ∧ Below w.heap.size w w' :=
  (fbit_walk u0  Z w  hZ (fbit_ok u0)).mono fun _ _ ⟨r, he, hk, hb⟩ => ⟨by subst hk; exact he, hb⟩

theorem smost_walk (u0 : Int)  (Z : Fz) (w : World)  (hZ : Z.on w) {K : (Int × Int) → Prop} (hp : smost_vc u0 K) : Calls Tryd.prog 36 #[i6 u0] w fun e w' => ∃ r : Int × Int, e = .returned (.tuple #[i6 r.1, i6 r.2]) ∧ K r ∧ Below w.heap.size w w' := by
 refine enter0 Tryd.func36 rfl rfl (by kernel_rfl) ?_; intro p h; have a := Mem.start w Z hZ; have q := Fz.le.refl Z
 refine sqB h a [] [] [] ?_; intro s i; clear h
 refine wp_seq ?_
 refine sqB i a [] [] [(9, .bool ((decide (u0 < 0)) || (decide (u0 > 1000))))] ?_; intro u b; clear i
 refine cd b (t := (decide (u0 < 0)) || (decide (u0 > 1000))) (by kernel_rfl) (fun f => ?_) (fun f => ?_)
 · -- yes
  have j := hp.1 f; clear hp
  refine sqB b a [] [] [(2, i6 0), (3, i6 3)] ?_; intro v k; clear b
  refine wp_ret ?_
  refine thr ?_
  refine ra2 k (.tuple #[i6 0, i6 3]) ?_
  exact ⟨(0, 3), rfl, j, a.below⟩
 · -- no
  have d := hp.2 f; clear hp
  refine wp_skip ?_
  refine thn ?_
  refine wp_seq ?_
  refine sqB b a [] [] [(11, .bool (u0 == 0))] ?_; intro x c; clear b
  refine cd c (t := u0 == 0) (by kernel_rfl) (fun g => ?_) (fun g => ?_)
  · -- yes
   have l := d.1 g; clear d
   refine sqB c a [] [] [(2, i6 0), (3, i6 0)] ?_; intro y m; clear c
   refine wp_ret ?_
   refine thr ?_
   refine ra2 m (.tuple #[i6 0, i6 0]) ?_
   exact ⟨(0, 0), rfl, l, a.below⟩
  · -- no
   have n := d.2 g; clear d
   refine wp_skip ?_
   refine thn ?_
   refine sqB c a [] [] [(2, i6 (w64 (u0 + (w64 ((w64 (u0 - 1)).tdiv 4))))), (3, i6 0)] ?_; intro z o; clear c
   refine wp_ret ?_
   refine ra2 o (.tuple #[i6 (w64 (u0 + (w64 ((w64 (u0 - 1)).tdiv 4)))), i6 0]) ?_
   exact ⟨(w64 (u0 + (w64 ((w64 (u0 - 1)).tdiv 4))), 0), rfl, n, a.below⟩
theorem smost_fun (u0 : Int)  (Z : Fz) (w : World)  (hZ : Z.on w) : Calls Tryd.prog 36 #[i6 u0] w fun e w' => e = .returned (.tuple #[i6 (smost u0).1, i6 (smost u0).2]) ∧ Below w.heap.size w w' :=
  (smost_walk u0  Z w  hZ (smost_ok u0)).mono fun _ _ ⟨r, he, hk, hb⟩ => ⟨by subst hk; exact he, hb⟩

theorem ckinds_walk   (Z : Fz) (w : World)  (hZ : Z.on w) {K : (Kind × Kind × Kind × Kind × Kind) → Prop} (hp : ckinds_vc  K) : Calls Tryd.prog 51 #[] w fun e w' => ∃ r : (Kind × Kind × Kind × Kind × Kind), e = .returned (.agg #[i6 r.1.Size, y6 r.1.Poly, y6 r.1.From, y6 r.1.End, i6 r.2.1.Size, y6 r.2.1.Poly, y6 r.2.1.From, y6 r.2.1.End, i6 r.2.2.1.Size, y6 r.2.2.1.Poly, y6 r.2.2.1.From, y6 r.2.2.1.End, i6 r.2.2.2.1.Size, y6 r.2.2.2.1.Poly, y6 r.2.2.2.1.From, y6 r.2.2.2.1.End, i6 r.2.2.2.2.Size, y6 r.2.2.2.2.Poly, y6 r.2.2.2.2.From, y6 r.2.2.2.2.End]) ∧ K r ∧ Below w.heap.size w w' := by
 refine enter0 Tryd.func51 rfl rfl (by kernel_rfl) ?_; intro q f; have g := Mem.start w Z hZ; have s := Fz.le.refl Z
 refine sqH ?_; intro n h
 refine nw f g pb [i6 0, y6 0, y6 0, y6 0, i6 0, y6 0, y6 0, y6 0, i6 0, y6 0, y6 0, y6 0, i6 0, y6 0, y6 0, y6 0, i6 0, y6 0, y6 0, y6 0] 88 ?_; intro a t u i c; clear f g
 refine nlH (h _ _ ?_); clear h n
 refine sqH ?_; intro o j
 refine bt i c 6 [] [] [(6, .agg #[i6 15, y6 17817, y6 0, y6 0, i6 17, y6 92251, y6 65536, y6 0, i6 21, y6 1058969, y6 1048576, y6 0, i6 8, y6 47, y6 255, y6 255, i6 16, y6 4129, y6 65535, y6 0])] ?_; intro x d; clear i
 refine sx d c 0 [i6 15, y6 17817, y6 0, y6 0, i6 17, y6 92251, y6 65536, y6 0, i6 21, y6 1058969, y6 1048576, y6 0, i6 8, y6 47, y6 255, y6 255, i6 16, y6 4129, y6 65535, y6 0] 0 ?_; intro p l; clear c
 have m : Mem w.heap.size [] w Z [.row a [i6 15, y6 17817, y6 0, y6 0, i6 17, y6 92251, y6 65536, y6 0, i6 21, y6 1058969, y6 1048576, y6 0, i6 8, y6 47, y6 255, y6 255, i6 16, y6 4129, y6 65535, y6 0] 88] Z p := l; clear l
 refine nlH (j _ _ ?_); clear j o
 refine wp_ret ?_
 refine rt (fn := Tryd.f51) (v := .agg #[i6 15, y6 17817, y6 0, y6 0, i6 17, y6 92251, y6 65536, y6 0, i6 21, y6 1058969, y6 1048576, y6 0, i6 8, y6 47, y6 255, y6 255, i6 16, y6 4129, y6 65535, y6 0]) d (re1c d (fn := Tryd.f51) rfl (ad := ⟨a, 0, none⟩) (by kernel_rfl) (loadVar_run m 0 (b := a) (k := 20) (vs := [i6 15, y6 17817, y6 0, y6 0, i6 17, y6 92251, y6 65536, y6 0, i6 21, y6 1058969, y6 1048576, y6 0, i6 8, y6 47, y6 255, y6 255, i6 16, y6 4129, y6 65535, y6 0]) (ty := 88) rfl (by kernel_rfl) (by kernel_rfl)) ) ?_
 exact ⟨((⟨15, 17817, 0, 0⟩ : Kind), (⟨17, 92251, 65536, 0⟩ : Kind), (⟨21, 1058969, 1048576, 0⟩ : Kind), (⟨8, 47, 255, 255⟩ : Kind), (⟨16, 4129, 65535, 0⟩ : Kind)), rfl, hp, m.below⟩
theorem ckinds_fun   (Z : Fz) (w : World)  (hZ : Z.on w) : Calls Tryd.prog 51 #[] w fun e w' => e = .returned (.agg #[i6 ckinds.1.Size, y6 ckinds.1.Poly, y6 ckinds.1.From, y6 ckinds.1.End, i6 ckinds.2.1.Size, y6 ckinds.2.1.Poly, y6 ckinds.2.1.From, y6 ckinds.2.1.End, i6 ckinds.2.2.1.Size, y6 ckinds.2.2.1.Poly, y6 ckinds.2.2.1.From, y6 ckinds.2.2.1.End, i6 ckinds.2.2.2.1.Size, y6 ckinds.2.2.2.1.Poly, y6 ckinds.2.2.2.1.From, y6 ckinds.2.2.2.1.End, i6 ckinds.2.2.2.2.Size, y6 ckinds.2.2.2.2.Poly, y6 ckinds.2.2.2.2.From, y6 ckinds.2.2.2.2.End]) ∧ Below w.heap.size w w' :=
  (ckinds_walk   Z w  hZ (ckinds_ok )).mono fun _ _ ⟨r, he, hk, hb⟩ => ⟨by subst hk; exact he, hb⟩

theorem sindex_walk (u0 : List Int) (u1 : Int) (ao1 : Option Addr) (cap2 : Nat) (Z : Fz) (w : World) (hs3 : SlR t6 Z ao1 cap2 u0) (hZ : Z.on w) {K : Int → Prop} (hp : sindex_vc u0 u1 K) : Calls Tryd.prog 40 #[.slice ao1 u0.length cap2, i6 u1] w fun e w' => ∃ r : Int, e = .returned (i6 r) ∧ K r ∧ Below w.heap.size w w' := by
 refine enter0 Tryd.func40 rfl rfl (by kernel_rfl) ?_; intro a0 m; have g := Mem.start w Z hZ; have ad := Fz.le.refl Z
 have G := hp (hs3.small); clear hp
 refine sqB m g [] [] [] ?_; intro a6 n; clear m
 refine wp_seq ?_
 refine sqB n g [] [] [(7, i6 (u0.length : Int)), (8, i6 0)] ?_; intro o p; clear n
 refine wp_block ?_
 have q : Fr 19 [] [⟨0, [], .slice ao1 u0.length cap2⟩, ⟨1, [], i6 u1⟩, ⟨7, [], i6 (u0.length : Int)⟩, ⟨8, [], i6 0⟩] o := p.region (by kernel_rfl) (by kernel_rfl); clear p
 have u : Fr 19 [] [⟨0, [], .slice ao1 u0.length cap2⟩, ⟨1, [], i6 u1⟩, ⟨7, [], i6 (u0.length : Int)⟩, ⟨8, [], i6 0⟩] o := q.region (by kernel_rfl) (by kernel_rfl); clear q
 obtain ⟨H, I, J, L⟩ := G
 refine lp (ι := Int) (fun s => [⟨0, [], .slice ao1 u0.length cap2⟩, ⟨1, [], i6 u1⟩, ⟨7, [], i6 (u0.length : Int)⟩, ⟨8, [], i6 s⟩]) (fun s => []) (fun s => Z) (fun s => H s) (fun s => I s) 0 J (by exact u.region (by kernel_rfl) (by kernel_rfl)) (by exact g) ?_
 rintro a M N O v x
 have y : Fr 19 [] [⟨0, [], .slice ao1 u0.length cap2⟩, ⟨1, [], i6 u1⟩, ⟨7, [], i6 (u0.length : Int)⟩, ⟨8, [], i6 a⟩] N := v; clear v u
 have b : Mem w.heap.size [] w Z [] Z O := x; clear x g
 have h := L a M
 refine sqB y b [] [] [(9, .bool (decide (a < (u0.length : Int))))] ?_; intro ae c; clear y
 refine wp_seq ?_
 refine cd c (t := decide (a < (u0.length : Int))) (by kernel_rfl) (fun j => ?_) (fun j => ?_)
 · -- yes
  have P := h.1 j; clear h
  refine wp_skip ?_
  refine thn ?_
  refine wp_seq ?_
  refine wp_block ?_
  refine sqB c b [] [] [(5, i6 a)] ?_; intro af z; clear c
  refine sqH ?_; intro Q A
  refine bt z b 3 [] [] [(11, i6 u1), (12, .slice ao1 u0.length cap2), (13, i6 a)] ?_; intro ag B; clear z
  obtain ⟨R, C⟩ := P
  refine ix B (T := t6) (xs := u0) hs3 a R (k := .i64) (e := 3) (bytes := 8) (nog rfl _) rfl (by kernel_rfl) rfl (by kernel_rfl) (by kernel_rfl) (by kernel_rfl) ?_; intro ah ai S d aj U V W D; clear B
  have i := C d U; clear C
  obtain rfl : S = ([i6 d] : List Value) := W
  refine z1 D b 15 V 0 (i6 d) rfl ?_; intro ak E; clear D
  refine s1 E 16 (.bool (u1 == d)) ?_; intro al f; clear E
  refine nlH (A _ _ ?_); clear A Q
  refine cd f (t := u1 == d) (by kernel_rfl) (fun l => ?_) (fun l => ?_)
  · -- yes
   have X := i.1 l; clear i
   refine sqB f b [] [] [(4, i6 a)] ?_; intro am Y; clear f
   refine wp_ret ?_
   refine ibr ?_
   refine thr ?_
   refine thr ?_
   refine ibr ?_
   refine thr ?_
   refine ra1 Y (i6 a) ?_
   exact ⟨a, rfl, X, b.below⟩
  · -- no
   have F := i.2 l; clear i
   refine wp_skip ?_
   refine ibn ?_
   refine thn ?_
   refine rgB f b [] [] [(8, i6 (w64 (a + 1)))] ?_; intro an aa; clear f
   refine rd ?_
   exact ⟨w64 (a + 1), F.1, F.2, (aa.region (by kernel_rfl) (by kernel_rfl)).anyβ _ (by kernel_rfl), b.keep (List.Sublist.slnil)⟩
 · -- no
  have ab := h.2 j; clear h
  refine wp_exit ?_
  refine thx ?_
  refine thx ?_
  refine ibx ?_
  refine thn ?_
  refine sqB c b [] [] [(4, i6 (-1))] ?_; intro ao ac; clear c
  refine wp_ret ?_
  refine ra1 ac (i6 (-1)) ?_
  exact ⟨-1, rfl, ab, b.below⟩

theorem scontains_walk (u0 : List Int) (u1 : Int) (ao1 : Option Addr) (cap2 : Nat) (Z : Fz) (w : World) (hs3 : SlR t6 Z ao1 cap2 u0) (hZ : Z.on w) {K : Bool → Prop} (hp : scontains_vc u0 u1 K) : Calls Tryd.prog 46 #[.slice ao1 u0.length cap2, i6 u1] w fun e w' => ∃ r : Bool, e = .returned (.bool r) ∧ K r ∧ Below w.heap.size w w' := by
 refine enter0 Tryd.func46 rfl rfl (by kernel_rfl) ?_; intro n c; have a := Mem.start w Z hZ; have o := Fz.le.refl Z
 have j := hp (hs3.small); clear hp
 refine sqB c a [] [] [] ?_; intro p d; clear c
 refine sqH ?_; intro k f
 refine bt d a 2 [] [] [(5, .slice ao1 u0.length cap2), (6, i6 u1)] ?_; intro q g; clear d
 refine ck g 40 #[.slice ao1 u0.length cap2, i6 u1] ?_
 refine (sindex_walk u0 u1 ao1 cap2 _ _ hs3 a.fz j).mono ?_; rintro _ s ⟨b, rfl, l, hb⟩; refine ⟨_, rfl, ?_⟩; intro t h; have i := a.call hb; clear hb a g
 refine bt h i 2 [] [] [(4, .bool (decide (b ≥ 0)))] ?_; intro u m; clear h
 refine nlH (f _ _ ?_); clear f k
 refine wp_ret ?_
 refine ra1 m (.bool (decide (b ≥ 0))) ?_
 exact ⟨decide (b ≥ 0), rfl, l, i.below⟩

theorem fkind_walk (u0 : Frame) (ao1 : Option Addr) (cap2 : Nat) (Z : Fz) (w : World) (hs3 : SlR t8 Z ao1 cap2 u0.Data) (hZ : Z.on w) {K : Int → Prop} (hp : fkind_vc u0 K) : Calls Tryd.prog 38 #[.agg #[i6 u0.ID, .bool u0.Long, .bool u0.Fast, .bool u0.Remote, i6 u0.Size, .slice ao1 u0.Data.length cap2]] w fun e w' => ∃ r : Int, e = .returned (i6 r) ∧ K r ∧ Below w.heap.size w w' := by
 refine enter0 Tryd.func38 rfl rfl (by kernel_rfl) ?_; intro x i; have j := Mem.start w Z hZ; have y := Fz.le.refl Z
 have d := hp (hs3.small); clear hp
 refine sqH ?_; intro n k
 refine nw i j pb (e69Dc u0 ao1 cap2) 69 ?_; intro z A B l a; clear i j
 refine s1 l 2 (i6 0) ?_; intro C m; clear l
 refine nlH (k _ _ ?_); clear k n
 refine wp_seq ?_
 refine wp_block ?_
 refine sqB m a [0] [] [(3, .bool (!u0.Fast))] ?_; intro D b; clear m
 refine cd b (t := !u0.Fast) (by kernel_rfl) (fun g => ?_) (fun g => ?_)
 · -- yes
  have o := d.1 g; clear d
  refine sqB b a [] [] [(2, i6 0)] ?_; intro E p; clear b
  refine wp_ret ?_
  refine ibr ?_
  refine thr ?_
  refine ra1 p (i6 0) ?_
  exact ⟨0, rfl, o, a.below⟩
 · -- no
  have f := d.2 g; clear d
  refine sqB b a [0] [] [(7, .bool (decide ((u0.Data.length : Int) ≤ 16)))] ?_; intro F c; clear b
  refine cd c (t := decide ((u0.Data.length : Int) ≤ 16)) (by kernel_rfl) (fun h => ?_) (fun h => ?_)
  · -- yes
   have q := f.1 h; clear f
   refine sqB c a [] [] [(2, i6 1)] ?_; intro G s; clear c
   refine wp_ret ?_
   refine ibr ?_
   refine thr ?_
   refine ra1 s (i6 1) ?_
   exact ⟨1, rfl, q, a.below⟩
  · -- no
   have u := f.2 h; clear f
   refine wp_skip ?_
   refine ibn ?_
   refine thn ?_
   refine sqB c a [] [] [(2, i6 2)] ?_; intro H v; clear c
   refine wp_ret ?_
   refine ra1 v (i6 2) ?_
   exact ⟨2, rfl, u, a.below⟩
theorem fkind_fun (u0 : Frame) (ao1 : Option Addr) (cap2 : Nat) (Z : Fz) (w : World) (hs3 : SlR t8 Z ao1 cap2 u0.Data) (hZ : Z.on w) : Calls Tryd.prog 38 #[.agg #[i6 u0.ID, .bool u0.Long, .bool u0.Fast, .bool u0.Remote, i6 u0.Size, .slice ao1 u0.Data.length cap2]] w fun e w' => e = .returned (i6 (fkind u0)) ∧ Below w.heap.size w w' :=
  (fkind_walk u0 ao1 cap2 Z w hs3 hZ (fkind_ok u0)).mono fun _ _ ⟨r, he, hk, hb⟩ => ⟨by subst hk; exact he, hb⟩

theorem fname_walk (u0 : Frame) (ao1 : Option Addr) (cap2 : Nat) (Z : Fz) (w : World) (hs3 : SlR t8 Z ao1 cap2 u0.Data) (hZ : Z.on w) {K : (List UInt8) → Prop} (hp : fname_vc u0 K) : Calls Tryd.prog 48 #[.agg #[i6 u0.ID, .bool u0.Long, .bool u0.Fast, .bool u0.Remote, i6 u0.Size, .slice ao1 u0.Data.length cap2]] w fun e w' => ∃ r : (List UInt8), e = .returned (str r) ∧ K r ∧ Below w.heap.size w w' := by
 refine enter0 Tryd.func48 rfl rfl (by kernel_rfl) ?_; intro a0 u; have v := Mem.start w Z hZ; have aw := Fz.le.refl Z
 have f := hp (hs3.small); clear hp
 refine sqH ?_; intro U x
 refine nw u v pb (e69Dc u0 ao1 cap2) 69 ?_; intro a a7 ax y c; clear u v
 refine s1 y 2 (str []) ?_; intro ay z; clear y
 refine nlH (x _ _ ?_); clear x U
 refine wp_seq ?_
 refine sqB z c [0] [] [(5, .bool (!u0.Long))] ?_; intro A d; clear z
 refine cd d (t := !u0.Long) (by kernel_rfl) (fun h => ?_) (fun h => ?_)
 · -- yes
  have V := f.1 h; clear f
  have B : Fr 30 [] [⟨1, [], pt a 0⟩] A := d.region (by kernel_rfl) (by kernel_rfl); clear d
  refine sqQH mixed (by kernel_rfl) c ?_; intro W C
  refine q1 B 6 (pt a 0) ?_; intro az i; clear B
  refine qst i (i6 u0.ID) (nog rfl _) rfl (by kernel_rfl) (fun v27 hC => ld i hC 0 (g := []) (b := a) (off := 0) (cs := (e69Dc u0 ao1 cap2)) (ty := 69) rfl (by kernel_rfl) (by kernel_rfl) (by kernel_rfl) (by kernel_rfl) rfl) ?_; intro aA D; clear i
  refine q1 D 8 (y6 (wu64 u0.ID)) ?_; intro aB E; clear D
  obtain ⟨X, Y⟩ := V
  refine qcl E (str (bwriteS (wu64 u0.ID) 11)) 50 #[y6 (wu64 u0.ID), i6 11] (nog rfl _) rfl (by kernel_rfl) (fun _ => by kernel_rfl) (qfc fun w hC => bwrite_fun (wu64 u0.ID) 11 X _ _ hC.fz) ?_; intro aC F; clear E
  refine q1 F 10 (pt a 3) ?_; intro aD j; clear F
  refine qst j (.bool u0.Remote) (nog rfl _) rfl (by kernel_rfl) (fun v41 hC => ld j hC 0 (g := []) (b := a) (off := 3) (cs := (e69Dc u0 ao1 cap2)) (ty := 69) rfl (by kernel_rfl) (by kernel_rfl) (by kernel_rfl) (by kernel_rfl) rfl) ?_; intro aE G; clear j
  refine qcl G (str (fbit u0.Remote)) 55 #[.bool u0.Remote] (nog rfl _) rfl (by kernel_rfl) (fun _ => by kernel_rfl) (qfc fun w hC => fbit_fun u0.Remote _ _ hC.fz) ?_; intro aF k; clear G
  obtain ⟨aa, ab⟩ := Y
  refine qst k (str ((bwriteS (wu64 u0.ID) 11) ++ (fbit u0.Remote))) (nog rfl _) rfl (by kernel_rfl) (fun v47 hC => stradd_run k (g := []) rfl (by kernel_rfl) (by kernel_rfl) aa rfl) ?_; intro aG l; clear k
  obtain ⟨ac, ad⟩ := ab
  refine qst l (str (((bwriteS (wu64 u0.ID) 11) ++ (fbit u0.Remote)) ++ ([48] : List UInt8))) (nog rfl _) rfl (by kernel_rfl) (fun v52 hC => stradd_run l (g := []) rfl (by kernel_rfl) (by kernel_rfl) ac rfl) ?_; intro aH H; clear l
  refine q1 H 2 (str (((bwriteS (wu64 u0.ID) 11) ++ (fbit u0.Remote)) ++ ([48] : List UInt8))) ?_; intro aI ae; clear H
  refine qnl (C _ ?_); clear C W; intro aJ af; clear c
  refine wp_ret ?_
  refine thr ?_
  refine ra1 ae (str (((bwriteS (wu64 u0.ID) 11) ++ (fbit u0.Remote)) ++ ([48] : List UInt8))) ?_
  exact ⟨((bwriteS (wu64 u0.ID) 11) ++ (fbit u0.Remote)) ++ ([48] : List UInt8), rfl, ad, af.below⟩
 · -- no
  have ag := f.2 h; clear f
  refine wp_skip ?_
  refine thn ?_
  have I : Fr 30 [] [⟨1, [], pt a 0⟩] A := d.region (by kernel_rfl) (by kernel_rfl); clear d
  refine sqQH mixed (by kernel_rfl) c ?_; intro ah J
  refine q1 I 15 (pt a 0) ?_; intro aK m; clear I
  refine qst m (i6 u0.ID) (nog rfl _) rfl (by kernel_rfl) (fun v68 hC => ld m hC 0 (g := []) (b := a) (off := 0) (cs := (e69Dc u0 ao1 cap2)) (ty := 69) rfl (by kernel_rfl) (by kernel_rfl) (by kernel_rfl) (by kernel_rfl) rfl) ?_; intro aL L; clear m
  refine q1 L 17 (i6 (bShr .i64 u0.ID 18)) ?_; intro aM M; clear L
  refine q1 M 18 (y6 (wu64 (bShr .i64 u0.ID 18))) ?_; intro aN N; clear M
  obtain ⟨ai, aj⟩ := ag
  refine qcl N (str (bwriteS (wu64 (bShr .i64 u0.ID 18)) 11)) 50 #[y6 (wu64 (bShr .i64 u0.ID 18)), i6 11] (nog rfl _) rfl (by kernel_rfl) (fun _ => by kernel_rfl) (qfc fun w hC => bwrite_fun (wu64 (bShr .i64 u0.ID 18)) 11 ai _ _ hC.fz) ?_; intro aO n; clear N
  obtain ⟨ak, al⟩ := aj
  refine qst n (str ((bwriteS (wu64 (bShr .i64 u0.ID 18)) 11) ++ ([49, 49] : List UInt8))) (nog rfl _) rfl (by kernel_rfl) (fun v82 hC => stradd_run n (g := []) rfl (by kernel_rfl) (by kernel_rfl) ak rfl) ?_; intro aP O; clear n
  refine q1 O 21 (pt a 0) ?_; intro aQ o; clear O
  refine qst o (i6 u0.ID) (nog rfl _) rfl (by kernel_rfl) (fun v90 hC => ld o hC 0 (g := []) (b := a) (off := 0) (cs := (e69Dc u0 ao1 cap2)) (ty := 69) rfl (by kernel_rfl) (by kernel_rfl) (by kernel_rfl) (by kernel_rfl) rfl) ?_; intro aR P; clear o
  refine q1 P 23 (y6 (wu64 u0.ID)) ?_; intro aS Q; clear P
  obtain ⟨am, an⟩ := al
  refine qcl Q (str (bwriteS (wu64 u0.ID) 18)) 50 #[y6 (wu64 u0.ID), i6 18] (nog rfl _) rfl (by kernel_rfl) (fun _ => by kernel_rfl) (qfc fun w hC => bwrite_fun (wu64 u0.ID) 18 am _ _ hC.fz) ?_; intro aT p; clear Q
  obtain ⟨ao, ap⟩ := an
  refine qst p (str (((bwriteS (wu64 (bShr .i64 u0.ID 18)) 11) ++ ([49, 49] : List UInt8)) ++ (bwriteS (wu64 u0.ID) 18))) (nog rfl _) rfl (by kernel_rfl) (fun v101 hC => stradd_run p (g := []) rfl (by kernel_rfl) (by kernel_rfl) ao rfl) ?_; intro aU R; clear p
  refine q1 R 26 (pt a 3) ?_; intro aV q; clear R
  refine qst q (.bool u0.Remote) (nog rfl _) rfl (by kernel_rfl) (fun v109 hC => ld q hC 0 (g := []) (b := a) (off := 3) (cs := (e69Dc u0 ao1 cap2)) (ty := 69) rfl (by kernel_rfl) (by kernel_rfl) (by kernel_rfl) (by kernel_rfl) rfl) ?_; intro aW S; clear q
  refine qcl S (str (fbit u0.Remote)) 55 #[.bool u0.Remote] (nog rfl _) rfl (by kernel_rfl) (fun _ => by kernel_rfl) (qfc fun w hC => fbit_fun u0.Remote _ _ hC.fz) ?_; intro aX s; clear S
  obtain ⟨aq, ar⟩ := ap
  refine qst s (str ((((bwriteS (wu64 (bShr .i64 u0.ID 18)) 11) ++ ([49, 49] : List UInt8)) ++ (bwriteS (wu64 u0.ID) 18)) ++ (fbit u0.Remote))) (nog rfl _) rfl (by kernel_rfl) (fun v115 hC => stradd_run s (g := []) rfl (by kernel_rfl) (by kernel_rfl) aq rfl) ?_; intro aY T; clear s
  refine q1 T 2 (str ((((bwriteS (wu64 (bShr .i64 u0.ID 18)) 11) ++ ([49, 49] : List UInt8)) ++ (bwriteS (wu64 u0.ID) 18)) ++ (fbit u0.Remote))) ?_; intro aZ au; clear T
  refine qnl (J _ ?_); clear J ah; intro a1 av; clear c
  refine wp_ret ?_
  refine ra1 au (str ((((bwriteS (wu64 (bShr .i64 u0.ID 18)) 11) ++ ([49, 49] : List UInt8)) ++ (bwriteS (wu64 u0.ID) 18)) ++ (fbit u0.Remote))) ?_
  exact ⟨(((bwriteS (wu64 (bShr .i64 u0.ID 18)) 11) ++ ([49, 49] : List UInt8)) ++ (bwriteS (wu64 u0.ID) 18)) ++ (fbit u0.Remote), rfl, ar, av.below⟩

theorem dasks_walk (u0 : Task) (u1 : Int) (u2 : Bool)  (Z : Fz) (w : World)  (hZ : Z.on w) {K : Int → Prop} (hp : dasks_vc u0 u1 u2 K) : Calls Tryd.prog 29 #[.agg #[i6 u0.ID, i6 u0.Bytes, i6 u0.Every, i6 u0.Late, i6 u0.Jitter], i6 u1, .bool u2] w fun e w' => ∃ r : Int, e = .returned (i6 r) ∧ K r ∧ Below w.heap.size w w' := by
 refine enter0 Tryd.func29 rfl rfl (by kernel_rfl) ?_; intro F h; have i := Mem.start w Z hZ; have G := Fz.le.refl Z
 refine sqH ?_; intro s j
 refine nw h i pb (e32Dc u0) 32 ?_; intro H I J k a; clear h i
 refine s1 k 6 (i6 0) ?_; intro L l; clear k
 refine nlH (j _ _ ?_); clear j s
 refine sqB l a [0] [] [(7, i6 (w64 (u1 + u0.Jitter)))] ?_; intro M m; clear l
 refine wp_seq ?_
 refine sqB m a [] [] [(12, .bool u2)] ?_; intro N b; clear m
 refine cd b (t := u2) (by kernel_rfl) (fun c => ?_) (fun c => ?_)
 · -- yes
  have u := hp.1 c; clear hp
  refine sqH ?_; intro v n
  refine bt b a 3 [0] [] [(13, i6 (w64 (u1 + u0.Jitter))), (15, i6 u0.Every)] ?_; intro O d; clear b
  obtain ⟨x, y⟩ := u
  refine st d (i6 (w64 ((w64 (u1 + u0.Jitter)).tdiv u0.Every))) (nog rfl _) rfl (by kernel_rfl) (quo_run d (g := []) rfl (by kernel_rfl) (by kernel_rfl) x rfl) ?_; intro P o; clear d
  refine bt o a 2 [] [] [(6, i6 (w64 ((w64 ((w64 (u1 + u0.Jitter)).tdiv u0.Every)) + 1)))] ?_; intro Q z; clear o
  refine nlH (n _ _ ?_); clear n v
  refine wp_ret ?_
  refine thr ?_
  refine ra1 z (i6 (w64 ((w64 ((w64 (u1 + u0.Jitter)).tdiv u0.Every)) + 1))) ?_
  exact ⟨w64 ((w64 ((w64 (u1 + u0.Jitter)).tdiv u0.Every)) + 1), rfl, y, a.below⟩
 · -- no
  have A := hp.2 c; clear hp
  refine wp_skip ?_
  refine thn ?_
  refine sqH ?_; intro B p
  refine bt b a 7 [0, 0] [] [(22, i6 (w64 ((w64 ((w64 (u1 + u0.Jitter)) + u0.Every)) - 1))), (24, i6 u0.Every)] ?_; intro R f; clear b
  obtain ⟨C, D⟩ := A
  refine st f (i6 (w64 ((w64 ((w64 ((w64 (u1 + u0.Jitter)) + u0.Every)) - 1)).tdiv u0.Every))) (nog rfl _) rfl (by kernel_rfl) (quo_run f (g := []) rfl (by kernel_rfl) (by kernel_rfl) C rfl) ?_; intro S q; clear f
  refine s1 q 6 (i6 (w64 ((w64 ((w64 ((w64 (u1 + u0.Jitter)) + u0.Every)) - 1)).tdiv u0.Every))) ?_; intro T E; clear q
  refine nlH (p _ _ ?_); clear p B
  refine wp_ret ?_
  refine ra1 E (i6 (w64 ((w64 ((w64 ((w64 (u1 + u0.Jitter)) + u0.Every)) - 1)).tdiv u0.Every))) ?_
  exact ⟨w64 ((w64 ((w64 ((w64 (u1 + u0.Jitter)) + u0.Every)) - 1)).tdiv u0.Every), rfl, D, a.below⟩

theorem dcheck_walk (u0 : List Task) (ao1 : Option Addr) (cap2 : Nat) (Z : Fz) (w : World) (hs3 : SlR tyTask Z ao1 cap2 u0) (hZ : Z.on w) {K : Int → Prop} (hp : dcheck_vc u0 K) : Calls Tryd.prog 9 #[.slice ao1 u0.length cap2] w fun e w' => ∃ r : Int, e = .returned (i6 r) ∧ K r ∧ Below w.heap.size w w' := by
 refine enter0 Tryd.func9 rfl rfl (by kernel_rfl) ?_; intro a0 z; have c := Mem.start w Z hZ; have aw := Fz.le.refl Z
 have l := hp (hs3.small); clear hp
 refine sqB z c [] [] [] ?_; intro a6 A; clear z
 refine wp_seq ?_
 refine sqB A c [] [] [(8, .bool (decide ((u0.length : Int) > 20)))] ?_; intro ax g; clear A
 refine cd g (t := decide ((u0.length : Int) > 20)) (by kernel_rfl) (fun q => ?_) (fun q => ?_)
 · -- yes
  have S := l.1 q; clear l
  refine sqB g c [] [] [(2, i6 2)] ?_; intro ay U; clear g
  refine wp_ret ?_
  refine thr ?_
  refine ra1 U (i6 2) ?_
  exact ⟨2, rfl, S, c.below⟩
 · -- no
  have V := l.2 q; clear l
  refine wp_skip ?_
  refine thn ?_
  refine sqB g c [] [] [(3, i6 (-1))] ?_; intro az B; clear g
  refine wp_seq ?_
  refine sqB B c [] [] [(9, .slice ao1 u0.length cap2), (10, i6 (u0.length : Int)), (11, i6 0)] ?_; intro C D; clear B
  refine wp_block ?_
  have E : Fr 72 [] [⟨3, [], i6 (-1)⟩, ⟨9, [], .slice ao1 u0.length cap2⟩, ⟨10, [], i6 (u0.length : Int)⟩, ⟨11, [], i6 0⟩] C := D.region (by kernel_rfl) (by kernel_rfl); clear D
  have F : Fr 72 [] [⟨3, [], i6 (-1)⟩, ⟨9, [], .slice ao1 u0.length cap2⟩, ⟨10, [], i6 (u0.length : Int)⟩, ⟨11, [], i6 0⟩] C := E.region (by kernel_rfl) (by kernel_rfl); clear E
  obtain ⟨W, X, Y, aa⟩ := V
  refine lp (ι := Int × Int) (fun s => [⟨3, [], i6 s.1⟩, ⟨9, [], .slice ao1 u0.length cap2⟩, ⟨10, [], i6 (u0.length : Int)⟩, ⟨11, [], i6 s.2⟩]) (fun s => []) (fun s => Z) (fun s => W s.1 s.2) (fun s => X s.1 s.2) ⟨-1, 0⟩ Y (by exact F.region (by kernel_rfl) (by kernel_rfl)) (by exact c) ?_
  rintro ⟨m, d⟩ ab ac ad G H
  have I : Fr 72 [] [⟨3, [], i6 m⟩, ⟨9, [], .slice ao1 u0.length cap2⟩, ⟨10, [], i6 (u0.length : Int)⟩, ⟨11, [], i6 d⟩] ac := G; clear G F
  have f : Mem w.heap.size [] w Z [] Z ad := H; clear H c
  have n := aa m d ab
  refine sqB I f [] [] [(12, .bool (decide (d < (u0.length : Int))))] ?_; intro aA h; clear I
  refine wp_seq ?_
  refine cd h (t := decide (d < (u0.length : Int))) (by kernel_rfl) (fun u => ?_) (fun u => ?_)
  · -- yes
   have ae := n.1 u; clear n
   refine wp_skip ?_
   refine thn ?_
   refine wp_seq ?_
   refine wp_block ?_
   refine sqH ?_; intro af J
   obtain ⟨ag, L⟩ := ae
   refine ix h (T := tyTask) (xs := u0) hs3 d ag (k := .i64) (e := 32) (bytes := 40) (nog rfl _) rfl (by kernel_rfl) rfl (by kernel_rfl) (by kernel_rfl) (by kernel_rfl) ?_; intro aB aC ah a aD ai aj ak M; clear h
   have o := L a ai; clear L
   obtain rfl : ah = ((e32Dc a) : List Value) := ak
   refine z2 M f 14 aj 0 5 (e32Dc a) rfl ?_; intro aE N; clear M
   refine nw N f pb [i6 0, i6 0, i6 0, i6 0, i6 0] 32 ?_; intro al aF aG v O; clear N f
   refine sx v O 0 (e32Dc a) 0 ?_; intro am P; clear O
   have b : Mem w.heap.size [] w Z [.row al (e32Dc a) 32] Z am := P; clear P
   refine nlH (J _ _ ?_); clear J af
   refine wp_seq ?_
   refine sqB v b [0, 0, 0, 0, 0, 0, 0, 0, 0, 0, 0] [] [(64, .bool ((((((((((decide (a.ID < 0)) || (decide (a.ID > 2047))) || (decide (a.Every < 1))) || (decide (a.Every > 1000000))) || (decide (a.Late < 0))) || (decide (a.Late > 1000000))) || (decide (a.Jitter < 0))) || (decide (a.Jitter ≥ a.Every))) || (decide (a.Bytes < 0))) || (decide (a.Bytes > 8))))] ?_; intro aH i; clear v
   refine cd i (t := (((((((((decide (a.ID < 0)) || (decide (a.ID > 2047))) || (decide (a.Every < 1))) || (decide (a.Every > 1000000))) || (decide (a.Late < 0))) || (decide (a.Late > 1000000))) || (decide (a.Jitter < 0))) || (decide (a.Jitter ≥ a.Every))) || (decide (a.Bytes < 0))) || (decide (a.Bytes > 8))) (by kernel_rfl) (fun x => ?_) (fun x => ?_)
   · -- yes
    have an := o.1 x; clear o
    refine sqB i b [] [] [(2, i6 3)] ?_; intro aI ao; clear i
    refine wp_ret ?_
    refine thr ?_
    refine ibr ?_
    refine thr ?_
    refine thr ?_
    refine ibr ?_
    refine thr ?_
    refine ra1 ao (i6 3) ?_
    exact ⟨3, rfl, an, b.below⟩
   · -- no
    have p := o.2 x; clear o
    refine wp_skip ?_
    refine thn ?_
    refine wp_seq ?_
    refine sqB i b [0] [] [(68, .bool (decide (a.ID ≤ m)))] ?_; intro aJ j; clear i
    refine cd j (t := decide (a.ID ≤ m)) (by kernel_rfl) (fun y => ?_) (fun y => ?_)
    · -- yes
     have ap := p.1 y; clear p
     refine sqB j b [] [] [(2, i6 4)] ?_; intro aK aq; clear j
     refine wp_ret ?_
     refine thr ?_
     refine ibr ?_
     refine thr ?_
     refine thr ?_
     refine ibr ?_
     refine thr ?_
     refine ra1 aq (i6 4) ?_
     exact ⟨4, rfl, ap, b.below⟩
    · -- no
     have Q := p.2 y; clear p
     refine wp_skip ?_
     refine thn ?_
     refine rgB j b [0] [] [(3, i6 a.ID)] ?_; intro aL R; clear j
     refine ibn ?_
     refine thn ?_
     refine rgB R b [] [] [(11, i6 (w64 (d + 1)))] ?_; intro aM ar; clear R
     refine rd ?_
     exact ⟨⟨a.ID, w64 (d + 1)⟩, Q.1, Q.2, (ar.region (by kernel_rfl) (by kernel_rfl)).anyβ _ (by kernel_rfl), b.keep (List.Sublist.cons _ (List.Sublist.slnil))⟩
  · -- no
   have au := n.2 u; clear n
   refine wp_exit ?_
   refine thx ?_
   refine thx ?_
   refine ibx ?_
   refine thn ?_
   refine sqB h f [] [] [(2, i6 0)] ?_; intro aN av; clear h
   refine wp_ret ?_
   refine ra1 av (i6 0) ?_
   exact ⟨0, rfl, au, f.below⟩

end Go.Proofs.YtginlmgkimfjmaaDoor
set_option linter.unusedVariables false
set_option linter.unusedSimpArgs false
set_option maxRecDepth 100000
set_option maxHeartbeats 0
namespace Go.Proofs.YtginlmgkimfjmaaDoor
open Go.Sy Go.RowKit
abbrev e69Dd (X : Frame) (A0 : Option Addr) (C0 : Nat) : List Value := [i6 X.ID, .bool X.Long, .bool X.Fast, .bool X.Remote, i6 X.Size, .slice A0 X.Data.length C0]
theorem scontains_fun (u0 : List Int) (u1 : Int) (ao1 : Option Addr) (cap2 : Nat) (Z : Fz) (w : World) (hs3 : SlR t6 Z ao1 cap2 u0) (hZ : Z.on w) : Calls Tryd.prog 46 #[.slice ao1 u0.length cap2, i6 u1] w fun e w' => e = .returned (.bool (scontainsS u0 u1)) ∧ Below w.heap.size w w' :=
  (scontains_walk u0 u1 ao1 cap2 Z w hs3 hZ (scontains_ok u0 u1)).mono fun _ _ ⟨r, he, hk, hb⟩ => ⟨by subst hk; exact he, hb⟩

theorem sindex_fun (u0 : List Int) (u1 : Int) (ao1 : Option Addr) (cap2 : Nat) (Z : Fz) (w : World) (hs3 : SlR t6 Z ao1 cap2 u0) (hZ : Z.on w) : Calls Tryd.prog 40 #[.slice ao1 u0.length cap2, i6 u1] w fun e w' => e = .returned (i6 (sindexS u0 u1)) ∧ Below w.heap.size w w' :=
  (sindex_walk u0 u1 ao1 cap2 Z w hs3 hZ (sindex_ok2 u0 u1)).mono fun _ _ ⟨r, he, hk, hb⟩ => ⟨by subst hk; exact he, hb⟩

theorem fname_fun (u0 : Frame) (hpre : 0 ≤ u0.ID ∧ u0.ID ≤ 536870911) (ao1 : Option Addr) (cap2 : Nat) (Z : Fz) (w : World) (hs3 : SlR t8 Z ao1 cap2 u0.Data) (hZ : Z.on w) : Calls Tryd.prog 48 #[.agg #[i6 u0.ID, .bool u0.Long, .bool u0.Fast, .bool u0.Remote, i6 u0.Size, .slice ao1 u0.Data.length cap2]] w fun e w' => e = .returned (str (fnameS u0)) ∧ Below w.heap.size w w' :=
  (fname_walk u0 ao1 cap2 Z w hs3 hZ (fname_ok u0 hpre)).mono fun _ _ ⟨r, he, hk, hb⟩ => ⟨by subst hk; exact he, hb⟩

theorem dasks_fun (u0 : Task) (u1 : Int) (u2 : Bool) (hpre : u0.Every ≠ 0)  (Z : Fz) (w : World)  (hZ : Z.on w) : Calls Tryd.prog 29 #[.agg #[i6 u0.ID, i6 u0.Bytes, i6 u0.Every, i6 u0.Late, i6 u0.Jitter], i6 u1, .bool u2] w fun e w' => e = .returned (i6 (dasksS u0 u1 u2)) ∧ Below w.heap.size w w' :=
  (dasks_walk u0 u1 u2  Z w  hZ (dasks_ok u0 u1 u2 hpre)).mono fun _ _ ⟨r, he, hk, hb⟩ => ⟨by subst hk; exact he, hb⟩

theorem dcheck_fun (u0 : List Task) (ao1 : Option Addr) (cap2 : Nat) (Z : Fz) (w : World) (hs3 : SlR tyTask Z ao1 cap2 u0) (hZ : Z.on w) : Calls Tryd.prog 9 #[.slice ao1 u0.length cap2] w fun e w' => e = .returned (i6 (dcheckS u0)) ∧ Below w.heap.size w w' :=
  (dcheck_walk u0 ao1 cap2 Z w hs3 hZ (dcheck_ok u0)).mono fun _ _ ⟨r, he, hk, hb⟩ => ⟨by subst hk; exact he, hb⟩

theorem fcheckfr_walk (u0 : Frame) (ao1 : Option Addr) (cap2 : Nat) (Z : Fz) (w : World) (hs3 : SlR t8 Z ao1 cap2 u0.Data) (hZ : Z.on w) {K : Int → Prop} (hp : fcheckfr_vc u0 K) : Calls Tryd.prog 34 #[.agg #[i6 u0.ID, .bool u0.Long, .bool u0.Fast, .bool u0.Remote, i6 u0.Size, .slice ao1 u0.Data.length cap2]] w fun e w' => ∃ r : Int, e = .returned (i6 r) ∧ K r ∧ Below w.heap.size w w' := by
 refine enter0 Tryd.func34 rfl rfl (by kernel_rfl) ?_; intro a0 C; have D := Mem.start w Z hZ; have j := Fz.le.refl Z
 have k := hp (hs3.small); clear hp
 refine sqH ?_; intro V E
 refine nw C D pb (e69Dd u0 ao1 cap2) 69 ?_; intro l a7 aq F a; clear C D
 refine s1 F 2 (i6 0) ?_; intro ar G; clear F
 refine nlH (E _ _ ?_); clear E V
 refine wp_seq ?_
 refine wp_block ?_
 refine sqB G a [0, 0, 0, 0] [] [(3, .bool (((decide (u0.ID < 0)) || ((!u0.Long) && (decide (u0.ID > 2047)))) || (decide (u0.ID > 536870911))))] ?_; intro au c; clear G
 refine cd c (t := ((decide (u0.ID < 0)) || ((!u0.Long) && (decide (u0.ID > 2047)))) || (decide (u0.ID > 536870911))) (by kernel_rfl) (fun q => ?_) (fun q => ?_)
 · -- yes
  have W := k.1 q; clear k
  refine sqB c a [] [] [(2, i6 3)] ?_; intro av X; clear c
  refine wp_ret ?_
  refine ibr ?_
  refine thr ?_
  refine ra1 X (i6 3) ?_
  exact ⟨3, rfl, W, a.below⟩
 · -- no
  have m := k.2 q; clear k
  refine sqB c a [0, 0, 0] [] [(22, .bool (u0.Remote && (u0.Fast || (decide ((u0.Data.length : Int) > 0)))))] ?_; intro aw d; clear c
  refine cd d (t := u0.Remote && (u0.Fast || (decide ((u0.Data.length : Int) > 0)))) (by kernel_rfl) (fun s => ?_) (fun s => ?_)
  · -- yes
   have Y := m.1 s; clear m
   refine sqB d a [] [] [(2, i6 4)] ?_; intro ax aa; clear d
   refine wp_ret ?_
   refine ibr ?_
   refine thr ?_
   refine ra1 aa (i6 4) ?_
   exact ⟨4, rfl, Y, a.below⟩
  · -- no
   have n := m.2 s; clear m
   refine sqB d a [0, 0, 0, 0] [] [(35, .bool (((decide (u0.Size < 0)) || (decide (u0.Size > 8))) || ((!u0.Remote) && (u0.Size != 0))))] ?_; intro ay f; clear d
   refine cd f (t := ((decide (u0.Size < 0)) || (decide (u0.Size > 8))) || ((!u0.Remote) && (u0.Size != 0))) (by kernel_rfl) (fun u => ?_) (fun u => ?_)
   · -- yes
    have ab := n.1 u; clear n
    refine sqB f a [] [] [(2, i6 3)] ?_; intro az ac; clear f
    refine wp_ret ?_
    refine ibr ?_
    refine thr ?_
    refine ra1 ac (i6 3) ?_
    exact ⟨3, rfl, ab, a.below⟩
   · -- no
    have o := n.2 u; clear n
    refine sqB f a [0, 0, 0] [] [(54, .bool ((decide ((u0.Data.length : Int) > 64)) || ((!u0.Fast) && (decide ((u0.Data.length : Int) > 8)))))] ?_; intro ad g; clear f
    refine cd g (t := (decide ((u0.Data.length : Int) > 64)) || ((!u0.Fast) && (decide ((u0.Data.length : Int) > 8)))) (by kernel_rfl) (fun v => ?_) (fun v => ?_)
    · -- yes
     have ae := o.1 v; clear o
     refine sqB g a [] [] [(2, i6 2)] ?_; intro aA af; clear g
     refine wp_ret ?_
     refine ibr ?_
     refine thr ?_
     refine ra1 af (i6 2) ?_
     exact ⟨2, rfl, ae, a.below⟩
    · -- no
     have p := o.2 v; clear o
     have H : Fr 77 [] [⟨1, [], pt l 0⟩] ad := g.region (by kernel_rfl) (by kernel_rfl); clear g
     refine wp_seq (rgS mixed a [(1, true), (2, true), (3, true), (0, false), (4, false), (5, true), (6, true)] [] [0] [.row l (e69Dd u0 ao1 cap2) 69] ?_)
     intro ag I aB x; clear a
     have b := Fz.le.refl Z
     refine cS H 3 [0] [] [(74, i6 (u0.Data.length : Int))] ?_; intro aC J; clear H
     refine eS rfl ?_; intro ah L
     refine ck J 47 #[] ?_
     refine (fsizes_fun  _ _ x.fz).mono ?_; rintro _ M ⟨N, O, ai, rfl, hm⟩; refine ⟨_, rfl, ?_⟩; intro aD P; have Q := x.callZ hm; have y := hm.ext.le; clear hm x J
     replace hs3 := hs3.mono y
     replace b := b.mono y
     replace j := Fz.le.trans j y
     have R : Mem w.heap.size [] w Z [.own t6 3 N O fsizes, .row l (e69Dd u0 ao1 cap2) 69] ai M := Q; clear Q
     refine nl (qnI (L _ _ (R.cst b [1]) ?_)); clear L ah
     refine eS rfl ?_; intro aj S
     obtain ⟨ak, z, T, al⟩ := R.freeze 0 rfl
     replace hs3 := hs3.mono z
     replace b := b.mono z
     replace j := Fz.le.trans j z
     have A : Mem w.heap.size [] w Z [.row l (e69Dd u0 ao1 cap2) 69] ak M := T; clear T
     refine fc P A (scontains_fun fsizes (u0.Data.length : Int) N O _ _ al A.fz) ?_; intro aE aF U h; clear P A
     refine nl (qnI (S _ _ (h.cst b [0]) ?_)); clear S aj
     refine cS U 2 [] [] [(70, .bool (!(scontainsS fsizes (u0.Data.length : Int))))] ?_; intro aG i; clear U
     refine nS (I _ _ ?_); clear I ag
     refine thn ?_
     refine cd i (t := !(scontainsS fsizes (u0.Data.length : Int))) (by kernel_rfl) (fun B => ?_) (fun B => ?_)
     · -- yes
      have am := p.1 B; clear p
      refine sqB i h [] [] [(2, i6 4)] ?_; intro aH an; clear i
      refine wp_ret ?_
      refine ibr ?_
      refine thr ?_
      refine ra1 an (i6 4) ?_
      exact ⟨4, rfl, am, h.below⟩
     · -- no
      have ao := p.2 B; clear p
      refine wp_skip ?_
      refine ibn ?_
      refine thn ?_
      refine sqB i h [] [] [(2, i6 0)] ?_; intro aI ap; clear i
      refine wp_ret ?_
      refine ra1 ap (i6 0) ?_
      exact ⟨0, rfl, ao, h.below⟩
theorem fcheckfr_fun (u0 : Frame) (ao1 : Option Addr) (cap2 : Nat) (Z : Fz) (w : World) (hs3 : SlR t8 Z ao1 cap2 u0.Data) (hZ : Z.on w) : Calls Tryd.prog 34 #[.agg #[i6 u0.ID, .bool u0.Long, .bool u0.Fast, .bool u0.Remote, i6 u0.Size, .slice ao1 u0.Data.length cap2]] w fun e w' => e = .returned (i6 (fcheckfr u0)) ∧ Below w.heap.size w w' :=
  (fcheckfr_walk u0 ao1 cap2 Z w hs3 hZ (fcheckfr_ok u0)).mono fun _ _ ⟨r, he, hk, hb⟩ => ⟨by subst hk; exact he, hb⟩

theorem csize_walk (u0 : Int)  (Z : Fz) (w : World)  (hZ : Z.on w) {K : (Int × Int) → Prop} (hp : csize_vc u0 K) : Calls Tryd.prog 37 #[i6 u0] w fun e w' => ∃ r : Int × Int, e = .returned (.tuple #[i6 r.1, i6 r.2]) ∧ K r ∧ Below w.heap.size w w' := by
 refine enter0 Tryd.func37 rfl rfl (by kernel_rfl) ?_; intro P j; have d := Mem.start w Z hZ; have Q := Fz.le.refl Z
 refine sqB j d [] [] [] ?_; intro R k; clear j
 refine wp_seq ?_
 refine sqH ?_; intro G l
 refine s1 k 4 (i6 u0) ?_; intro S n; clear k
 refine s1 n 5 (.bool (decide (u0 < 0))) ?_; intro T o; clear n
 refine s1 o 6 (.bool (decide (u0 < 0))) ?_; intro U p; clear o
 have q := p.atom ((decide (u0 < 0)) == false) (by kernel_rfl); clear p
 refine gp q 7 0 [] (decide (u0 < 0)) (i6 u0) rfl rfl ?_; intro V s; clear q
 refine gcl s d (.agg #[i6 ckinds.1.Size, y6 ckinds.1.Poly, y6 ckinds.1.From, y6 ckinds.1.End, i6 ckinds.2.1.Size, y6 ckinds.2.1.Poly, y6 ckinds.2.1.From, y6 ckinds.2.1.End, i6 ckinds.2.2.1.Size, y6 ckinds.2.2.1.Poly, y6 ckinds.2.2.1.From, y6 ckinds.2.2.1.End, i6 ckinds.2.2.2.1.Size, y6 ckinds.2.2.2.1.Poly, y6 ckinds.2.2.2.1.From, y6 ckinds.2.2.2.1.End, i6 ckinds.2.2.2.2.Size, y6 ckinds.2.2.2.2.Poly, y6 ckinds.2.2.2.2.From, y6 ckinds.2.2.2.2.End]) 51 #[] (m := 0) (cj := []) (bj := decide (u0 < 0)) rfl rfl (by kernel_rfl) rfl (by kernel_rfl) (by kernel_rfl) (by kernel_rfl) (fun _ => by kernel_rfl) (fun hg => ckinds_fun  _ _ d.fz) ?_; intro W X u a; clear s d
 refine gp u 9 0 [] (decide (u0 < 0)) (i6 5) rfl rfl ?_; intro Y y; clear u
 refine gp y 10 0 [] (decide (u0 < 0)) (.bool (decide (u0 ≥ 5))) rfl rfl ?_; intro aa f; clear y
 refine st f (.bool ((decide (u0 < 0)) || (decide (u0 ≥ 5)))) (nog rfl _) rfl (by kernel_rfl) (pk_or f (g := []) (m := 0) (b := decide (u0 < 0)) (v := decide (u0 ≥ 5)) rfl (by kernel_rfl) (by kernel_rfl) (by kernel_rfl) rfl) ?_; intro z c; clear f
 refine nlH (l _ _ ?_); clear l G
 refine cd c (t := (decide (u0 < 0)) || (decide (u0 ≥ 5))) (by kernel_rfl) (fun h => ?_) (fun h => ?_)
 · -- yes
  have H := hp.1 h; clear hp
  have A : Fr 16 [] [] z := c.region (by kernel_rfl) (by kernel_rfl); clear c
  refine sqB A a [] [] [(2, i6 0), (3, i6 8)] ?_; intro ab I; clear A
  refine wp_ret ?_
  refine thr ?_
  refine ra2 I (.tuple #[i6 0, i6 8]) ?_
  exact ⟨(0, 8), rfl, H, a.below⟩
 · -- no
  have J := hp.2 h; clear hp
  refine wp_skip ?_
  refine thn ?_
  have B : Fr 16 [] [⟨0, [], i6 u0⟩] z := c.region (by kernel_rfl) (by kernel_rfl); clear c
  refine sqH ?_; intro L C
  refine fc B a (ckinds_fun  _ _ a.fz) ?_; intro ac ad D E; clear B a
  refine s1 D 13 (i6 u0) ?_; intro ae i; clear D
  obtain ⟨M, N⟩ := J
  have hix : ∀ x : Int, 0 ≤ x ∧ x < 5 → x = 0 ∨ x = 1 ∨ x = 2 ∨ x = 3 ∨ x = 4 := by intro x hx; omega
  refine st i (.agg #[i6 (([ckinds.1.Size, ckinds.2.1.Size, ckinds.2.2.1.Size, ckinds.2.2.2.1.Size, ckinds.2.2.2.2.Size] : List Int).getD u0.toNat 0), y6 (([ckinds.1.Poly, ckinds.2.1.Poly, ckinds.2.2.1.Poly, ckinds.2.2.2.1.Poly, ckinds.2.2.2.2.Poly] : List Int).getD u0.toNat 0), y6 (([ckinds.1.From, ckinds.2.1.From, ckinds.2.2.1.From, ckinds.2.2.2.1.From, ckinds.2.2.2.2.From] : List Int).getD u0.toNat 0), y6 (([ckinds.1.End, ckinds.2.1.End, ckinds.2.2.1.End, ckinds.2.2.2.1.End, ckinds.2.2.2.2.End] : List Int).getD u0.toNat 0)]) (nog rfl _) rfl (by kernel_rfl) ((by generalize u0 = ix at *; rcases hix _ M with rfl | rfl | rfl | rfl | rfl <;> exact p0 i (by kernel_rfl))) ?_; intro af F; clear i
  refine bt F E 3 [] [] [(2, i6 (([ckinds.1.Size, ckinds.2.1.Size, ckinds.2.2.1.Size, ckinds.2.2.2.1.Size, ckinds.2.2.2.2.Size] : List Int).getD u0.toNat 0)), (3, i6 0)] ?_; intro ag O; clear F
  refine nlH (C _ _ ?_); clear C L
  refine wp_ret ?_
  refine ra2 O (.tuple #[i6 (([ckinds.1.Size, ckinds.2.1.Size, ckinds.2.2.1.Size, ckinds.2.2.2.1.Size, ckinds.2.2.2.2.Size] : List Int).getD u0.toNat 0), i6 0]) ?_
  exact ⟨(([ckinds.1.Size, ckinds.2.1.Size, ckinds.2.2.1.Size, ckinds.2.2.2.1.Size, ckinds.2.2.2.2.Size] : List Int).getD u0.toNat 0, 0), rfl, N, E.below⟩
theorem csize_fun (u0 : Int)  (Z : Fz) (w : World)  (hZ : Z.on w) : Calls Tryd.prog 37 #[i6 u0] w fun e w' => e = .returned (.tuple #[i6 (csize u0).1, i6 (csize u0).2]) ∧ Below w.heap.size w w' :=
  (csize_walk u0  Z w  hZ (csize_ok u0)).mono fun _ _ ⟨r, he, hk, hb⟩ => ⟨by subst hk; exact he, hb⟩

theorem fhead_walk (u0 : Frame) (ao1 : Option Addr) (cap2 : Nat) (Z : Fz) (w : World) (hs3 : SlR t8 Z ao1 cap2 u0.Data) (hZ : Z.on w) {K : (List UInt8) → Prop} (hp : fhead_vc u0 K) : Calls Tryd.prog 35 #[.agg #[i6 u0.ID, .bool u0.Long, .bool u0.Fast, .bool u0.Remote, i6 u0.Size, .slice ao1 u0.Data.length cap2]] w fun e w' => ∃ r : (List UInt8), e = .returned (str r) ∧ K r ∧ Below w.heap.size w w' := by
 refine enter0 Tryd.func35 rfl rfl (by kernel_rfl) ?_; intro a0 L; have M := Mem.start w Z hZ; have s := Fz.le.refl Z
 have u := hp (hs3.small); clear hp
 refine sqH ?_; intro bS N
 refine nw L M pb (e69Dd u0 ao1 cap2) 69 ?_; intro v a7 dN O c; clear L M
 refine s1 O 2 (str []) ?_; intro dO P; clear O
 refine nlH (N _ _ ?_); clear N bS
 refine sqB P c [0] [] [(3, i6 u0.Size)] ?_; intro dP Q; clear P
 refine wp_seq ?_
 refine sqB Q c [0] [] [(11, .bool (!u0.Remote))] ?_; intro bT f; clear Q
 refine cd f (t := !u0.Remote) (by kernel_rfl) (fun B => ?_) (fun B => ?_)
 · -- yes
  have bU := u.1 B; clear u
  have R : Fr 45 [] [⟨1, [], pt v 0⟩] bT := f.region (by kernel_rfl) (by kernel_rfl); clear f
  refine rgS mixed c [(1, true), (2, true), (3, true), (0, false), (4, false), (5, true)] [] [0] [.row v (e69Dd u0 ao1 cap2) 69] ?_
  intro bV S dQ C; clear c
  have d := Fz.le.refl Z
  refine cS R 3 [0] [] [(15, i6 (u0.Data.length : Int))] ?_; intro dR T; clear R
  refine eS rfl ?_; intro bW U
  refine ck T 47 #[] ?_
  refine (fsizes_fun  _ _ C.fz).mono ?_; rintro _ V ⟨W, X, bX, rfl, hm⟩; refine ⟨_, rfl, ?_⟩; intro dS Y; have aa := C.callZ hm; have D := hm.ext.le; clear hm C T
  replace hs3 := hs3.mono D
  replace d := d.mono D
  replace s := Fz.le.trans s D
  have ab : Mem w.heap.size [] w Z [.own t6 3 W X fsizes, .row v (e69Dd u0 ao1 cap2) 69] bX V := aa; clear aa
  refine nl (qnI (U _ _ (ab.cst d [1]) ?_)); clear U bW
  refine eS rfl ?_; intro bY ac
  obtain ⟨bZ, E, ad, b0⟩ := ab.freeze 0 rfl
  replace hs3 := hs3.mono E
  replace d := d.mono E
  replace s := Fz.le.trans s E
  have F : Mem w.heap.size [] w Z [.row v (e69Dd u0 ao1 cap2) 69] bZ V := ad; clear ad
  refine fc Y F (sindex_fun fsizes (u0.Data.length : Int) W X _ _ b0 F.fz) ?_; intro dT dU ae g; clear Y F
  refine nl (qnI (ac _ _ (g.cst d [0]) ?_)); clear ac bY
  refine cS ae 1 [] [] [(3, i6 (sindexS fsizes (u0.Data.length : Int)))] ?_; intro dV af; clear ae
  refine nS (S _ _ ?_); clear S bV
  refine thn ?_
  refine sqH ?_; intro b1 ag
  refine l2 af g 17 0 0 6 (e69Dd u0 ao1 cap2) rfl rfl ?_; intro dW ah; clear af
  obtain ⟨b2, b3⟩ := bU
  refine fc ah g (fname_fun u0 b2 ao1 cap2 _ _ hs3 g.fz) ?_; intro dX dY ai a; clear ah g
  obtain ⟨b4, x⟩ := b3
  refine sa ai b4 ?_; intro dZ aj; clear ai
  refine s1 aj 4 (str (([48] : List UInt8) ++ (fnameS u0))) ?_; intro d0 ak; clear aj
  refine nlH (ag _ _ ?_); clear ag b1
  refine wp_seq ?_
  refine wp_block ?_
  refine sqB ak a [0] [] [(22, .bool u0.Fast)] ?_; intro d1 h; clear ak
  refine cd h (t := u0.Fast) (by kernel_rfl) (fun G => ?_) (fun G => ?_)
  · -- yes
   have b5 := x.1 G; clear x
   refine rgH ?_; intro b7 al
   refine s1 h 25 (str (([48] : List UInt8) ++ (fnameS u0))) ?_; intro d2 am; clear h
   obtain ⟨b8, b9⟩ := b5
   refine sa am b8 ?_; intro d3 an; clear am
   refine s1 an 4 (str ((([48] : List UInt8) ++ (fnameS u0)) ++ ([49, 48, 49, 48] : List UInt8))) ?_; intro d4 ao; clear an
   refine nlH (al _ _ ?_); clear al b7
   refine ibn ?_
   refine thn ?_
   refine sqH ?_; intro ca ap
   refine bt ao a 2 [0] [] [(34, .slice ao1 u0.Data.length cap2)] ?_; intro d5 aq; clear ao
   obtain ⟨cb, cc⟩ := b9
   refine fc aq a (bof_fun u0.Data cb ao1 cap2 _ _ hs3 a.fz) ?_; intro d6 d7 ar i; clear aq a
   refine bt ar i 5 [] [] [(5, str (bofS u0.Data).1)] ?_; intro d8 au; clear ar
   refine nlH (ap _ _ ?_); clear ap ca
   refine sqH ?_; intro ce av
   refine bt au i 3 [] [] [(38, str ((([48] : List UInt8) ++ (fnameS u0)) ++ ([49, 48, 49, 48] : List UInt8))), (40, y6 (wu64 (sindexS fsizes (u0.Data.length : Int))))] ?_; intro d9 aw; clear au
   obtain ⟨cf, cg⟩ := cc
   refine fc aw i (bwrite_fun (wu64 (sindexS fsizes (u0.Data.length : Int))) 4 cf _ _ i.fz) ?_; intro ea eb ax ch; clear aw i
   obtain ⟨ci, cj⟩ := cg
   refine sa ax ci ?_; intro ec ay; clear ax
   refine s1 ay 43 (str (bofS u0.Data).1) ?_; intro ed az; clear ay
   obtain ⟨cl, cm⟩ := cj
   refine sa az cl ?_; intro ee aA; clear az
   refine s1 aA 2 (str ((((([48] : List UInt8) ++ (fnameS u0)) ++ ([49, 48, 49, 48] : List UInt8)) ++ (bwriteS (wu64 (sindexS fsizes (u0.Data.length : Int))) 4)) ++ (bofS u0.Data).1)) ?_; intro ef cn; clear aA
   refine nlH (av _ _ ?_); clear av ce
   refine wp_ret ?_
   refine ra1 cn (str ((((([48] : List UInt8) ++ (fnameS u0)) ++ ([49, 48, 49, 48] : List UInt8)) ++ (bwriteS (wu64 (sindexS fsizes (u0.Data.length : Int))) 4)) ++ (bofS u0.Data).1)) ?_
   exact ⟨(((([48] : List UInt8) ++ (fnameS u0)) ++ ([49, 48, 49, 48] : List UInt8)) ++ (bwriteS (wu64 (sindexS fsizes (u0.Data.length : Int))) 4)) ++ (bofS u0.Data).1, rfl, cm, ch.below⟩
  · -- no
   have y := x.2 G; clear x
   refine sqB h a [0] [] [(27, .bool u0.Long)] ?_; intro eg j; clear h
   refine cd j (t := u0.Long) (by kernel_rfl) (fun H => ?_) (fun H => ?_)
   · -- yes
    have co := y.1 H; clear y
    refine rgH ?_; intro cp aB
    refine s1 j 30 (str (([48] : List UInt8) ++ (fnameS u0))) ?_; intro eh aC; clear j
    obtain ⟨cq, cr⟩ := co
    refine sa aC cq ?_; intro ei aD; clear aC
    refine s1 aD 4 (str ((([48] : List UInt8) ++ (fnameS u0)) ++ ([48, 48] : List UInt8))) ?_; intro ej aE; clear aD
    refine nlH (aB _ _ ?_); clear aB cp
    refine ibn ?_
    refine thn ?_
    refine sqH ?_; intro cs aF
    refine bt aE a 2 [0] [] [(34, .slice ao1 u0.Data.length cap2)] ?_; intro ek aG; clear aE
    obtain ⟨ct, cu⟩ := cr
    refine fc aG a (bof_fun u0.Data ct ao1 cap2 _ _ hs3 a.fz) ?_; intro el em aH k; clear aG a
    refine bt aH k 5 [] [] [(5, str (bofS u0.Data).1)] ?_; intro en aI; clear aH
    refine nlH (aF _ _ ?_); clear aF cs
    refine sqH ?_; intro cv aJ
    refine bt aI k 3 [] [] [(38, str ((([48] : List UInt8) ++ (fnameS u0)) ++ ([48, 48] : List UInt8))), (40, y6 (wu64 (sindexS fsizes (u0.Data.length : Int))))] ?_; intro eo aK; clear aI
    obtain ⟨cw, cx⟩ := cu
    refine fc aK k (bwrite_fun (wu64 (sindexS fsizes (u0.Data.length : Int))) 4 cw _ _ k.fz) ?_; intro ep eq aL cy; clear aK k
    obtain ⟨cz, cA⟩ := cx
    refine sa aL cz ?_; intro er aM; clear aL
    refine s1 aM 43 (str (bofS u0.Data).1) ?_; intro es aN; clear aM
    obtain ⟨cB, cC⟩ := cA
    refine sa aN cB ?_; intro et aO; clear aN
    refine s1 aO 2 (str ((((([48] : List UInt8) ++ (fnameS u0)) ++ ([48, 48] : List UInt8)) ++ (bwriteS (wu64 (sindexS fsizes (u0.Data.length : Int))) 4)) ++ (bofS u0.Data).1)) ?_; intro eu cD; clear aO
    refine nlH (aJ _ _ ?_); clear aJ cv
    refine wp_ret ?_
    refine ra1 cD (str ((((([48] : List UInt8) ++ (fnameS u0)) ++ ([48, 48] : List UInt8)) ++ (bwriteS (wu64 (sindexS fsizes (u0.Data.length : Int))) 4)) ++ (bofS u0.Data).1)) ?_
    exact ⟨(((([48] : List UInt8) ++ (fnameS u0)) ++ ([48, 48] : List UInt8)) ++ (bwriteS (wu64 (sindexS fsizes (u0.Data.length : Int))) 4)) ++ (bofS u0.Data).1, rfl, cC, cy.below⟩
   · -- no
    have cE := y.2 H; clear y
    refine rgH ?_; intro cF aP
    refine s1 j 20 (str (([48] : List UInt8) ++ (fnameS u0))) ?_; intro ev aQ; clear j
    obtain ⟨cG, cH⟩ := cE
    refine sa aQ cG ?_; intro ew aR; clear aQ
    refine s1 aR 4 (str ((([48] : List UInt8) ++ (fnameS u0)) ++ ([48] : List UInt8))) ?_; intro ex aS; clear aR
    refine nlH (aP _ _ ?_); clear aP cF
    refine ibn ?_
    refine thn ?_
    refine sqH ?_; intro cI aT
    refine bt aS a 2 [0] [] [(34, .slice ao1 u0.Data.length cap2)] ?_; intro ey aU; clear aS
    obtain ⟨cJ, cK⟩ := cH
    refine fc aU a (bof_fun u0.Data cJ ao1 cap2 _ _ hs3 a.fz) ?_; intro ez eA aV l; clear aU a
    refine bt aV l 5 [] [] [(5, str (bofS u0.Data).1)] ?_; intro eB aW; clear aV
    refine nlH (aT _ _ ?_); clear aT cI
    refine sqH ?_; intro cL aX
    refine bt aW l 3 [] [] [(38, str ((([48] : List UInt8) ++ (fnameS u0)) ++ ([48] : List UInt8))), (40, y6 (wu64 (sindexS fsizes (u0.Data.length : Int))))] ?_; intro eC aY; clear aW
    obtain ⟨cM, cN⟩ := cK
    refine fc aY l (bwrite_fun (wu64 (sindexS fsizes (u0.Data.length : Int))) 4 cM _ _ l.fz) ?_; intro eD eE aZ cO; clear aY l
    obtain ⟨cP, cQ⟩ := cN
    refine sa aZ cP ?_; intro eF a1; clear aZ
    refine s1 a1 43 (str (bofS u0.Data).1) ?_; intro eG a2; clear a1
    obtain ⟨cR, cT⟩ := cQ
    refine sa a2 cR ?_; intro eH a3; clear a2
    refine s1 a3 2 (str ((((([48] : List UInt8) ++ (fnameS u0)) ++ ([48] : List UInt8)) ++ (bwriteS (wu64 (sindexS fsizes (u0.Data.length : Int))) 4)) ++ (bofS u0.Data).1)) ?_; intro eI cU; clear a3
    refine nlH (aX _ _ ?_); clear aX cL
    refine wp_ret ?_
    refine ra1 cU (str ((((([48] : List UInt8) ++ (fnameS u0)) ++ ([48] : List UInt8)) ++ (bwriteS (wu64 (sindexS fsizes (u0.Data.length : Int))) 4)) ++ (bofS u0.Data).1)) ?_
    exact ⟨(((([48] : List UInt8) ++ (fnameS u0)) ++ ([48] : List UInt8)) ++ (bwriteS (wu64 (sindexS fsizes (u0.Data.length : Int))) 4)) ++ (bofS u0.Data).1, rfl, cT, cO.below⟩
 · -- no
  have cV := u.2 B; clear u
  refine wp_skip ?_
  refine thn ?_
  refine sqH ?_; intro cW a4
  refine l2 f c 17 0 0 6 (e69Dd u0 ao1 cap2) rfl rfl ?_; intro eJ a5; clear f
  obtain ⟨cX, cY⟩ := cV
  refine fc a5 c (fname_fun u0 cX ao1 cap2 _ _ hs3 c.fz) ?_; intro eK eL a6 b; clear a5 c
  obtain ⟨cZ, z⟩ := cY
  refine sa a6 cZ ?_; intro eM a8; clear a6
  refine s1 a8 4 (str (([48] : List UInt8) ++ (fnameS u0))) ?_; intro eN a9; clear a8
  refine nlH (a4 _ _ ?_); clear a4 cW
  refine wp_seq ?_
  refine wp_block ?_
  refine sqB a9 b [0] [] [(22, .bool u0.Fast)] ?_; intro eO m; clear a9
  refine cd m (t := u0.Fast) (by kernel_rfl) (fun I => ?_) (fun I => ?_)
  · -- yes
   have c0 := z.1 I; clear z
   refine rgH ?_; intro c1 ba
   refine s1 m 25 (str (([48] : List UInt8) ++ (fnameS u0))) ?_; intro eP bb; clear m
   obtain ⟨c2, c3⟩ := c0
   refine sa bb c2 ?_; intro eQ bc; clear bb
   refine s1 bc 4 (str ((([48] : List UInt8) ++ (fnameS u0)) ++ ([49, 48, 49, 48] : List UInt8))) ?_; intro eR bd; clear bc
   refine nlH (ba _ _ ?_); clear ba c1
   refine ibn ?_
   refine thn ?_
   refine sqH ?_; intro c4 be
   refine bt bd b 2 [0] [] [(34, .slice ao1 u0.Data.length cap2)] ?_; intro eT bf; clear bd
   obtain ⟨c5, c6⟩ := c3
   refine fc bf b (bof_fun u0.Data c5 ao1 cap2 _ _ hs3 b.fz) ?_; intro eU eV bg n; clear bf b
   refine bt bg n 5 [] [] [(5, str (bofS u0.Data).1)] ?_; intro eW bh; clear bg
   refine nlH (be _ _ ?_); clear be c4
   refine sqH ?_; intro c7 bi
   refine bt bh n 3 [] [] [(38, str ((([48] : List UInt8) ++ (fnameS u0)) ++ ([49, 48, 49, 48] : List UInt8))), (40, y6 (wu64 u0.Size))] ?_; intro eX bj; clear bh
   obtain ⟨c8, c9⟩ := c6
   refine fc bj n (bwrite_fun (wu64 u0.Size) 4 c8 _ _ n.fz) ?_; intro eY eZ bk da; clear bj n
   obtain ⟨db, dc⟩ := c9
   refine sa bk db ?_; intro e0 bl; clear bk
   refine s1 bl 43 (str (bofS u0.Data).1) ?_; intro e1 bm; clear bl
   obtain ⟨dd, de⟩ := dc
   refine sa bm dd ?_; intro e2 bn; clear bm
   refine s1 bn 2 (str ((((([48] : List UInt8) ++ (fnameS u0)) ++ ([49, 48, 49, 48] : List UInt8)) ++ (bwriteS (wu64 u0.Size) 4)) ++ (bofS u0.Data).1)) ?_; intro e3 df; clear bn
   refine nlH (bi _ _ ?_); clear bi c7
   refine wp_ret ?_
   refine ra1 df (str ((((([48] : List UInt8) ++ (fnameS u0)) ++ ([49, 48, 49, 48] : List UInt8)) ++ (bwriteS (wu64 u0.Size) 4)) ++ (bofS u0.Data).1)) ?_
   exact ⟨(((([48] : List UInt8) ++ (fnameS u0)) ++ ([49, 48, 49, 48] : List UInt8)) ++ (bwriteS (wu64 u0.Size) 4)) ++ (bofS u0.Data).1, rfl, de, da.below⟩
  · -- no
   have A := z.2 I; clear z
   refine sqB m b [0] [] [(27, .bool u0.Long)] ?_; intro e4 o; clear m
   refine cd o (t := u0.Long) (by kernel_rfl) (fun J => ?_) (fun J => ?_)
   · -- yes
    have dg := A.1 J; clear A
    refine rgH ?_; intro dh bo
    refine s1 o 30 (str (([48] : List UInt8) ++ (fnameS u0))) ?_; intro e5 bp; clear o
    obtain ⟨di, dj⟩ := dg
    refine sa bp di ?_; intro e6 bq; clear bp
    refine s1 bq 4 (str ((([48] : List UInt8) ++ (fnameS u0)) ++ ([48, 48] : List UInt8))) ?_; intro e7 br; clear bq
    refine nlH (bo _ _ ?_); clear bo dh
    refine ibn ?_
    refine thn ?_
    refine sqH ?_; intro dk bs
    refine bt br b 2 [0] [] [(34, .slice ao1 u0.Data.length cap2)] ?_; intro e8 bu; clear br
    obtain ⟨dl, dm⟩ := dj
    refine fc bu b (bof_fun u0.Data dl ao1 cap2 _ _ hs3 b.fz) ?_; intro e9 fa bv p; clear bu b
    refine bt bv p 5 [] [] [(5, str (bofS u0.Data).1)] ?_; intro fb bw; clear bv
    refine nlH (bs _ _ ?_); clear bs dk
    refine sqH ?_; intro dn bx
    refine bt bw p 3 [] [] [(38, str ((([48] : List UInt8) ++ (fnameS u0)) ++ ([48, 48] : List UInt8))), (40, y6 (wu64 u0.Size))] ?_; intro fd bz; clear bw
    obtain ⟨dp, dq⟩ := dm
    refine fc bz p (bwrite_fun (wu64 u0.Size) 4 dp _ _ p.fz) ?_; intro fe ff bA dr; clear bz p
    obtain ⟨ds, dt⟩ := dq
    refine sa bA ds ?_; intro fg bB; clear bA
    refine s1 bB 43 (str (bofS u0.Data).1) ?_; intro fh bC; clear bB
    obtain ⟨du, dv⟩ := dt
    refine sa bC du ?_; intro fi bD; clear bC
    refine s1 bD 2 (str ((((([48] : List UInt8) ++ (fnameS u0)) ++ ([48, 48] : List UInt8)) ++ (bwriteS (wu64 u0.Size) 4)) ++ (bofS u0.Data).1)) ?_; intro fj dw; clear bD
    refine nlH (bx _ _ ?_); clear bx dn
    refine wp_ret ?_
    refine ra1 dw (str ((((([48] : List UInt8) ++ (fnameS u0)) ++ ([48, 48] : List UInt8)) ++ (bwriteS (wu64 u0.Size) 4)) ++ (bofS u0.Data).1)) ?_
    exact ⟨(((([48] : List UInt8) ++ (fnameS u0)) ++ ([48, 48] : List UInt8)) ++ (bwriteS (wu64 u0.Size) 4)) ++ (bofS u0.Data).1, rfl, dv, dr.below⟩
   · -- no
    have dx := A.2 J; clear A
    refine rgH ?_; intro dy bE
    refine s1 o 20 (str (([48] : List UInt8) ++ (fnameS u0))) ?_; intro fk bF; clear o
    obtain ⟨dz, dA⟩ := dx
    refine sa bF dz ?_; intro fl bG; clear bF
    refine s1 bG 4 (str ((([48] : List UInt8) ++ (fnameS u0)) ++ ([48] : List UInt8))) ?_; intro fm bH; clear bG
    refine nlH (bE _ _ ?_); clear bE dy
    refine ibn ?_
    refine thn ?_
    refine sqH ?_; intro dB bI
    refine bt bH b 2 [0] [] [(34, .slice ao1 u0.Data.length cap2)] ?_; intro fn bJ; clear bH
    obtain ⟨dC, dD⟩ := dA
    refine fc bJ b (bof_fun u0.Data dC ao1 cap2 _ _ hs3 b.fz) ?_; intro fo fp bK q; clear bJ b
    refine bt bK q 5 [] [] [(5, str (bofS u0.Data).1)] ?_; intro fq bL; clear bK
    refine nlH (bI _ _ ?_); clear bI dB
    refine sqH ?_; intro dE bM
    refine bt bL q 3 [] [] [(38, str ((([48] : List UInt8) ++ (fnameS u0)) ++ ([48] : List UInt8))), (40, y6 (wu64 u0.Size))] ?_; intro fr bN; clear bL
    obtain ⟨dF, dG⟩ := dD
    refine fc bN q (bwrite_fun (wu64 u0.Size) 4 dF _ _ q.fz) ?_; intro fs ft bO dH; clear bN q
    obtain ⟨dI, dJ⟩ := dG
    refine sa bO dI ?_; intro fu bP; clear bO
    refine s1 bP 43 (str (bofS u0.Data).1) ?_; intro fv bQ; clear bP
    obtain ⟨dK, dL⟩ := dJ
    refine sa bQ dK ?_; intro fw bR; clear bQ
    refine s1 bR 2 (str ((((([48] : List UInt8) ++ (fnameS u0)) ++ ([48] : List UInt8)) ++ (bwriteS (wu64 u0.Size) 4)) ++ (bofS u0.Data).1)) ?_; intro fx dM; clear bR
    refine nlH (bM _ _ ?_); clear bM dE
    refine wp_ret ?_
    refine ra1 dM (str ((((([48] : List UInt8) ++ (fnameS u0)) ++ ([48] : List UInt8)) ++ (bwriteS (wu64 u0.Size) 4)) ++ (bofS u0.Data).1)) ?_
    exact ⟨(((([48] : List UInt8) ++ (fnameS u0)) ++ ([48] : List UInt8)) ++ (bwriteS (wu64 u0.Size) 4)) ++ (bofS u0.Data).1, rfl, dL, dH.below⟩

end Go.Proofs.YtginlmgkimfjmaaDoor
set_option linter.unusedVariables false
set_option linter.unusedSimpArgs false
set_option maxRecDepth 100000
set_option maxHeartbeats 0
namespace Go.Proofs.YtginlmgkimfjmaaDoor
open Go.Sy Go.RowKit
theorem fhead_fun (u0 : Frame) (hpre : fheadpre u0) (ao1 : Option Addr) (cap2 : Nat) (Z : Fz) (w : World) (hs3 : SlR t8 Z ao1 cap2 u0.Data) (hZ : Z.on w) : Calls Tryd.prog 35 #[.agg #[i6 u0.ID, .bool u0.Long, .bool u0.Fast, .bool u0.Remote, i6 u0.Size, .slice ao1 u0.Data.length cap2]] w fun e w' => e = .returned (str (fheadS u0)) ∧ Below w.heap.size w w' :=
  (fhead_walk u0 ao1 cap2 Z w hs3 hZ (fhead_ok u0 hpre)).mono fun _ _ ⟨r, he, hk, hb⟩ => ⟨by subst hk; exact he, hb⟩

theorem flongest_walk (u0 : Bool) (u1 : Bool) (u2 : Int)  (Z : Fz) (w : World)  (hZ : Z.on w) {K : (Int × Int) → Prop} (hp : flongest_vc u0 u1 u2 K) : Calls Tryd.prog 26 #[.bool u0, .bool u1, i6 u2] w fun e w' => ∃ r : Int × Int, e = .returned (.tuple #[i6 r.1, i6 r.2]) ∧ K r ∧ Below w.heap.size w w' := by
 refine enter0 Tryd.func26 rfl rfl (by kernel_rfl) ?_; intro a0 C; have l := Mem.start w Z hZ; have D := Fz.le.refl Z
 refine sqB C l [] [] [] ?_; intro a4 E; clear C
 refine sqH ?_; intro aq F
 refine bt E l 3 [] [] [(19, .agg #[i6 0, .bool u0, .bool u1, .bool false, i6 0, .slice none 0 0])] ?_; intro aO G; clear E
 refine nw G l pb [i6 0, .bool false, .bool false, .bool false, i6 0, .slice none 0 0] 69 ?_; intro d aP aQ o H; clear G l
 refine sx o H 0 [i6 0, .bool u0, .bool u1, .bool false, i6 0, .slice none 0 0] 0 ?_; intro ar I; clear H
 have f : Mem w.heap.size [] w Z [.row d [i6 0, .bool u0, .bool u1, .bool false, i6 0, .slice none 0 0] 69] Z ar := I; clear I
 refine nlH (F _ _ ?_); clear F aq
 refine wp_seq ?_
 refine sqB o f [] [] [(25, .bool ((decide (u2 < 0)) || (decide (u2 > 64))))] ?_; intro aR g; clear o
 refine cd g (t := (decide (u2 < 0)) || (decide (u2 > 64))) (by kernel_rfl) (fun p => ?_) (fun p => ?_)
 · -- yes
  have au := hp.1 p; clear hp
  refine sqB g f [] [] [(6, i6 0), (7, i6 2)] ?_; intro aS av; clear g
  refine wp_ret ?_
  refine thr ?_
  refine ra2 av (.tuple #[i6 0, i6 2]) ?_
  exact ⟨(0, 2), rfl, au, f.below⟩
 · -- no
  have aw := hp.2 p; clear hp
  refine wp_skip ?_
  refine thn ?_
  refine sqH ?_; intro ax J
  refine s1 g 26 (i6 u2) ?_; intro aT L; clear g
  obtain ⟨aU, m⟩ := aw
  refine mks L f (T := t8) u2 u2 (k := .i64) (k' := .i64) (e := 5) (bytes := 1) (zs := [y8 0]) (z := 0) (by simp only [lim]; omega) (nog rfl _) rfl (by kernel_rfl) rfl (by kernel_rfl) (by kernel_rfl) (by kernel_rfl) (by kernel_rfl) rfl ?_; intro a aV ay M N; clear L f
  have O : Mem w.heap.size [] w Z [.own t8 5 (sm a) u2.toNat (List.replicate u2.toNat (0 : Int)), .row d [i6 0, .bool u0, .bool u1, .bool false, i6 0, .slice none 0 0] 69] Z ay := N; clear N
  refine s1 M 28 (pt d 5) ?_; intro aW q; clear M
  refine sx q O 1 [i6 0, .bool u0, .bool u1, .bool false, i6 0, .slice (sm a) (List.replicate u2.toNat (0 : Int)).length u2.toNat] 5 ?_; intro P Q; clear O
  have R : Mem w.heap.size [] w Z [.own t8 5 (sm a) u2.toNat (List.replicate u2.toNat (0 : Int)), .row d [i6 0, .bool u0, .bool u1, .bool false, i6 0, .slice (sm a) (List.replicate u2.toNat (0 : Int)).length u2.toNat] 69] Z P := Q; clear Q
  refine nlH (J _ _ ?_); clear J ax
  refine wp_seq ?_
  refine sqH ?_; intro az S
  refine l2 q R 29 1 0 6 [i6 0, .bool u0, .bool u1, .bool false, i6 0, .slice (sm a) (List.replicate u2.toNat (0 : Int)).length u2.toNat] rfl rfl ?_; intro aX U; clear q
  obtain ⟨aA, aB, V, s⟩ := R.freeze 0 rfl
  replace D := Fz.le.trans D aB
  have u : Mem w.heap.size [] w Z [.row d [i6 0, .bool u0, .bool u1, .bool false, i6 0, .slice (sm a) (List.replicate u2.toNat (0 : Int)).length u2.toNat] 69] aA P := V; clear V
  refine fc U u (fcheckfr_fun (⟨0, u0, u1, false, 0, (List.replicate u2.toNat (0 : Int))⟩ : Frame) (sm a) u2.toNat _ _ s u.fz) ?_; intro aY aZ W c; clear U u
  refine s1 W 9 (i6 (fcheckfr (⟨0, u0, u1, false, 0, (List.replicate u2.toNat (0 : Int))⟩ : Frame))) ?_; intro a1 X; clear W
  refine nlH (S _ _ ?_); clear S az
  refine sqB X c [] [] [(32, .bool ((fcheckfr (⟨0, u0, u1, false, 0, (List.replicate u2.toNat (0 : Int))⟩ : Frame)) != 0))] ?_; intro a2 h; clear X
  refine cd h (t := (fcheckfr (⟨0, u0, u1, false, 0, (List.replicate u2.toNat (0 : Int))⟩ : Frame)) != 0) (by kernel_rfl) (fun v => ?_) (fun v => ?_)
  · -- yes
   have aC := m.1 v; clear m
   refine sqB h c [] [] [(6, i6 0), (7, i6 (fcheckfr (⟨0, u0, u1, false, 0, (List.replicate u2.toNat (0 : Int))⟩ : Frame)))] ?_; intro a3 aD; clear h
   refine wp_ret ?_
   refine thr ?_
   refine ra2 aD (.tuple #[i6 0, i6 (fcheckfr (⟨0, u0, u1, false, 0, (List.replicate u2.toNat (0 : Int))⟩ : Frame))]) ?_
   exact ⟨(0, (fcheckfr (⟨0, u0, u1, false, 0, (List.replicate u2.toNat (0 : Int))⟩ : Frame))), rfl, aC, c.below⟩
  · -- no
   have aE := m.2 v; clear m
   refine wp_skip ?_
   refine thn ?_
   refine sqH ?_; intro aF Y
   refine l2 h c 34 0 0 6 [i6 0, .bool u0, .bool u1, .bool false, i6 0, .slice (sm a) (List.replicate u2.toNat (0 : Int)).length u2.toNat] rfl rfl ?_; intro a5 aa; clear h
   obtain ⟨aG, n⟩ := aE
   refine fc aa c (fhead_fun (⟨0, u0, u1, false, 0, (List.replicate u2.toNat (0 : Int))⟩ : Frame) aG (sm a) u2.toNat _ _ s c.fz) ?_; intro a6 a7 ab b; clear aa c
   refine bt ab b 2 [] [] [(10, i6 ((fheadS (⟨0, u0, u1, false, 0, (List.replicate u2.toNat (0 : Int))⟩ : Frame)).length : Int))] ?_; intro a8 ac; clear ab
   refine nlH (Y _ _ ?_); clear Y aF
   refine wp_seq ?_
   refine sqB ac b [] [] [(38, .bool (!u1))] ?_; intro a9 i; clear ac
   refine cd i (t := !u1) (by kernel_rfl) (fun x => ?_) (fun x => ?_)
   · -- yes
    have aH := n.1 x; clear n
    refine sqH ?_; intro aI ad
    refine bt i b 2 [] [] [(41, i6 (w64 (((fheadS (⟨0, u0, u1, false, 0, (List.replicate u2.toNat (0 : Int))⟩ : Frame)).length : Int) + 15)))] ?_; intro ba ae; clear i
    refine fc ae b (smost_fun (w64 (((fheadS (⟨0, u0, u1, false, 0, (List.replicate u2.toNat (0 : Int))⟩ : Frame)).length : Int) + 15)) _ _ b.fz) ?_; intro bb bc af y; clear ae b
    refine bt af y 5 [] [] [(11, i6 (smost (w64 (((fheadS (⟨0, u0, u1, false, 0, (List.replicate u2.toNat (0 : Int))⟩ : Frame)).length : Int) + 15))).1)] ?_; intro bd ag; clear af
    refine nlH (ad _ _ ?_); clear ad aI
    refine sqB ag y [] [] [(6, i6 (w64 ((smost (w64 (((fheadS (⟨0, u0, u1, false, 0, (List.replicate u2.toNat (0 : Int))⟩ : Frame)).length : Int) + 15))).1 + 10))), (7, i6 0)] ?_; intro be aJ; clear ag
    refine wp_ret ?_
    refine thr ?_
    refine ra2 aJ (.tuple #[i6 (w64 ((smost (w64 (((fheadS (⟨0, u0, u1, false, 0, (List.replicate u2.toNat (0 : Int))⟩ : Frame)).length : Int) + 15))).1 + 10)), i6 0]) ?_
    exact ⟨(w64 ((smost (w64 (((fheadS (⟨0, u0, u1, false, 0, (List.replicate u2.toNat (0 : Int))⟩ : Frame)).length : Int) + 15))).1 + 10), 0), rfl, aH, y.below⟩
   · -- no
    have aK := n.2 x; clear n
    refine wp_skip ?_
    refine thn ?_
    refine sqH ?_; intro aL ah
    refine s1 i 48 (i6 ((fheadS (⟨0, u0, u1, false, 0, (List.replicate u2.toNat (0 : Int))⟩ : Frame)).length : Int)) ?_; intro bf ai; clear i
    refine fc ai b (smost_fun ((fheadS (⟨0, u0, u1, false, 0, (List.replicate u2.toNat (0 : Int))⟩ : Frame)).length : Int) _ _ b.fz) ?_; intro bg bh aj j; clear ai b
    refine bt aj j 5 [] [] [(13, i6 (smost ((fheadS (⟨0, u0, u1, false, 0, (List.replicate u2.toNat (0 : Int))⟩ : Frame)).length : Int)).1)] ?_; intro bi ak; clear aj
    refine nlH (ah _ _ ?_); clear ah aL
    refine sqH ?_; intro aM al
    refine l2 ak j 53 0 0 6 [i6 0, .bool u0, .bool u1, .bool false, i6 0, .slice (sm a) (List.replicate u2.toNat (0 : Int)).length u2.toNat] rfl rfl ?_; intro bj am; clear ak
    refine fc am j (fkind_fun (⟨0, u0, u1, false, 0, (List.replicate u2.toNat (0 : Int))⟩ : Frame) (sm a) u2.toNat _ _ s j.fz) ?_; intro bk bl an A; clear am j
    refine fc an A (csize_fun (fkind (⟨0, u0, u1, false, 0, (List.replicate u2.toNat (0 : Int))⟩ : Frame)) _ _ A.fz) ?_; intro bm bn ao B; clear an A
    refine bt ao B 5 [] [] [(15, i6 (csize (fkind (⟨0, u0, u1, false, 0, (List.replicate u2.toNat (0 : Int))⟩ : Frame))).1)] ?_; intro bo ap; clear ao
    refine nlH (al _ _ ?_); clear al aM
    refine sqB ap B [] [] [(6, i6 (w64 ((w64 ((smost ((fheadS (⟨0, u0, u1, false, 0, (List.replicate u2.toNat (0 : Int))⟩ : Frame)).length : Int)).1 + (w64 ((w64 (4 + (csize (fkind (⟨0, u0, u1, false, 0, (List.replicate u2.toNat (0 : Int))⟩ : Frame))).1)) + (w64 ((w64 ((w64 (4 + (csize (fkind (⟨0, u0, u1, false, 0, (List.replicate u2.toNat (0 : Int))⟩ : Frame))).1)) + 3)).tdiv 4)))))) + 10))), (7, i6 0)] ?_; intro bp aN; clear ap
    refine wp_ret ?_
    refine ra2 aN (.tuple #[i6 (w64 ((w64 ((smost ((fheadS (⟨0, u0, u1, false, 0, (List.replicate u2.toNat (0 : Int))⟩ : Frame)).length : Int)).1 + (w64 ((w64 (4 + (csize (fkind (⟨0, u0, u1, false, 0, (List.replicate u2.toNat (0 : Int))⟩ : Frame))).1)) + (w64 ((w64 ((w64 (4 + (csize (fkind (⟨0, u0, u1, false, 0, (List.replicate u2.toNat (0 : Int))⟩ : Frame))).1)) + 3)).tdiv 4)))))) + 10)), i6 0]) ?_
    exact ⟨(w64 ((w64 ((smost ((fheadS (⟨0, u0, u1, false, 0, (List.replicate u2.toNat (0 : Int))⟩ : Frame)).length : Int)).1 + (w64 ((w64 (4 + (csize (fkind (⟨0, u0, u1, false, 0, (List.replicate u2.toNat (0 : Int))⟩ : Frame))).1)) + (w64 ((w64 ((w64 (4 + (csize (fkind (⟨0, u0, u1, false, 0, (List.replicate u2.toNat (0 : Int))⟩ : Frame))).1)) + 3)).tdiv 4)))))) + 10), 0), rfl, aK, B.below⟩

end Go.Proofs.YtginlmgkimfjmaaDoor
namespace Go.Proofs
open Go.Shelf
def Tryd.lays105_ren : Go.Shelf.Ren := ⟨fun | 99 => 60 | 105 => 53 | 165 => 61 | 166 => 56 | 169 => 57 | 170 => 62 | 206 => 71 | 212 => 59 | 240 => 64 | 241 => 72 | 263 => 69 | 264 => 70 | 276 => 73 | 277 => 79 | n => n, fun | 37 => 67 | 46 => 92 | 51 => 114 | 53 => 85 | 70 => 94 | 72 => 96 | 75 => 98 | 76 => 99 | 80 => 101 | 109 => 102 | 127 => 107 | 146 => 115 | 148 => 117 | 164 => 119 | n => n, fun n => n⟩
theorem Tryd.lays105 : Lays.n105 Tryd.prog Tryd.lays105_ren := {
  mixed := by kernel_rfl
  f99 := Tryd.func60.trans (congrArg some (by kernel_rfl))
  f105 := Tryd.func53.trans (congrArg some (by kernel_rfl))
  f165 := Tryd.func61.trans (congrArg some (by kernel_rfl))
  f166 := Tryd.func56.trans (congrArg some (by kernel_rfl))
  f169 := Tryd.func57.trans (congrArg some (by kernel_rfl))
  f170 := Tryd.func62.trans (congrArg some (by kernel_rfl))
  f206 := Tryd.func71.trans (congrArg some (by kernel_rfl))
  f212 := Tryd.func59.trans (congrArg some (by kernel_rfl))
  f240 := Tryd.func64.trans (congrArg some (by kernel_rfl))
  f241 := Tryd.func72.trans (congrArg some (by kernel_rfl))
  f263 := Tryd.func69.trans (congrArg some (by kernel_rfl))
  f264 := Tryd.func70.trans (congrArg some (by kernel_rfl))
  f276 := Tryd.func73.trans (congrArg some (by kernel_rfl))
  f277 := Tryd.func79.trans (congrArg some (by kernel_rfl))
  t0 := Tryd.underlying0
  a0 := Tryd.isAgg0
  z0 := Tryd.sizeOf0
  v0 := Tryd.zeroValue0
  t3 := Tryd.underlying3
  a3 := Tryd.isAgg3
  z3 := Tryd.sizeOf3
  v3 := Tryd.zeroValue3
  t4 := Tryd.underlying4
  a4 := Tryd.isAgg4
  z4 := Tryd.sizeOf4
  v4 := Tryd.zeroValue4
  t5 := Tryd.underlying5
  a5 := Tryd.isAgg5
  z5 := Tryd.sizeOf5
  v5 := Tryd.zeroValue5
  t9 := Tryd.underlying9
  a9 := Tryd.isAgg9
  z9 := Tryd.sizeOf9
  v9 := Tryd.zeroValue9
  t20 := Tryd.underlying20
  a20 := Tryd.isAgg20
  z20 := Tryd.sizeOf20
  v20 := Tryd.zeroValue20
  t37 := Tryd.underlying67
  a37 := Tryd.isAgg67
  z37 := Tryd.sizeOf67
  v37 := Tryd.zeroValue67
  t46 := Tryd.underlying92
  a46 := Tryd.isAgg92
  z46 := Tryd.sizeOf92
  v46 := Tryd.zeroValue92
  t51 := Tryd.underlying114
  a51 := Tryd.isAgg114
  z51 := Tryd.sizeOf114
  v51 := Tryd.zeroValue114
  t53 := Tryd.underlying85
  a53 := Tryd.isAgg85
  z53 := Tryd.sizeOf85
  v53 := Tryd.zeroValue85
  t70 := Tryd.underlying94
  a70 := Tryd.isAgg94
  z70 := Tryd.sizeOf94
  v70 := Tryd.zeroValue94
  t72 := Tryd.underlying96
  a72 := Tryd.isAgg96
  z72 := Tryd.sizeOf96
  v72 := Tryd.zeroValue96
  t75 := Tryd.underlying98
  a75 := Tryd.isAgg98
  z75 := Tryd.sizeOf98
  v75 := Tryd.zeroValue98
  t76 := Tryd.underlying99
  a76 := Tryd.isAgg99
  z76 := Tryd.sizeOf99
  v76 := Tryd.zeroValue99
  t109 := Tryd.underlying102
  a109 := Tryd.isAgg102
  z109 := Tryd.sizeOf102
  v109 := Tryd.zeroValue102
  t127 := Tryd.underlying107
  a127 := Tryd.isAgg107
  z127 := Tryd.sizeOf107
  v127 := Tryd.zeroValue107
  t146 := Tryd.underlying115
  a146 := Tryd.isAgg115
  z146 := Tryd.sizeOf115
  v146 := Tryd.zeroValue115
  t148 := Tryd.underlying117
  a148 := Tryd.isAgg117
  z148 := Tryd.sizeOf117
  v148 := Tryd.zeroValue117
  t164 := Tryd.underlying119
  a164 := Tryd.isAgg119
  z164 := Tryd.sizeOf119
  v164 := Tryd.zeroValue119 }
theorem Tryd.lays105X : Builder.Extra Tryd.prog Tryd.lays105_ren := {
  sizeBuilder := by kernel_rfl
  liesBuilder := by kernel_rfl
  t5 := by kernel_rfl
  a5 := fun w => by kernel_rfl
  z5 := fun w => by kernel_rfl
  v5 := fun w => by kernel_rfl
  infoByte := by kernel_rfl
  cellsByte := by kernel_rfl
  sizeByte := by kernel_rfl
  neB5 := by decide }

end Go.Proofs
set_option linter.unusedVariables false
set_option linter.unusedSimpArgs false
set_option maxRecDepth 100000
set_option maxHeartbeats 0
namespace Go.Proofs.YtginlmgkimfjmaaDoor
open Go.Sy Go.RowKit
theorem srep_fun (u0 : List UInt8) (u1 : Int) (hpre : 0 ≤ u1 ∧ u1 ≤ 1000000 ∧ (u0.length : Int) * u1 ≤ 140737488355328) (Z : Fz) (w : World) (hZ : Z.on w) : Calls Tryd.prog 53 #[str u0, i6 u1] w fun e w' => e = .returned (str (srepS u0 u1)) ∧ Below w.heap.size w w' := by
  obtain ⟨m, rfl⟩ := Int.eq_ofNat_of_zero_le hpre.1
  have hl : u0.length * m ≤ 140737488355328 := by have := hpre.2.2; rw [← Int.natCast_mul] at this; omega
  have hm : m ≤ 1000000 := by have := hpre.2.1; omega
  have e : ∀ c : Nat, srepS u0 (c : Int) = Lib.repeatL u0 c := by
    intro c
    unfold srepS
    rw [Int.toNat_natCast]
    induction c with
    | zero => rfl
    | succ c ih => rw [List.replicate_succ, List.flatten_cons, ih]; rfl
  rw [e]
  exact Any.strings_Repeat Tryd.lays105 Tryd.lays105X ⟨⟨u0⟩⟩ m w (by omega) hl

theorem tz64_walk (u0 : Int)  (Z : Fz) (w : World) (hg3 : SlR t8 Z (sm 3) 64 deBruijn64) (hZ : Z.on w) {K : Int → Prop} (hp : tz64_vc u0 K) : Calls Tryd.prog 81 #[y6 u0] w fun e w' => ∃ r : Int, e = .returned (i6 r) ∧ K r ∧ Below w.heap.size w w' := by
 refine enter0 Tryd.func81 rfl rfl (by kernel_rfl) ?_; intro B f; have a := Mem.start w Z hZ; have C := Fz.le.refl Z
 refine sqB f a [] [] [] ?_; intro D g; clear f
 refine wp_seq ?_
 refine sqB g a [] [] [(4, .bool (u0 == 0))] ?_; intro E c; clear g
 refine cd c (t := u0 == 0) (by kernel_rfl) (fun d => ?_) (fun d => ?_)
 · -- yes
  have n := hp.1 d; clear hp
  refine sqB c a [] [] [(2, i6 64)] ?_; intro F o; clear c
  refine wp_ret ?_
  refine thr ?_
  refine ra1 o (i6 64) ?_
  exact ⟨64, rfl, n, a.below⟩
 · -- no
  have p := hp.2 d; clear hp
  refine wp_skip ?_
  refine thn ?_
  refine sqH ?_; intro q h
  refine bt c a 6 [] [] [(10, y6 (bShr .u64 (wu64 ((bAnd .u64 u0 (wu64 (0 - u0))) * 285870213051353865)) 58))] ?_; intro G i; clear c
  obtain ⟨s, j⟩ := p
  refine ixG i (T := t8) (xs := deBruijn64) hg3 (bShr .u64 (wu64 ((bAnd .u64 u0 (wu64 (0 - u0))) * 285870213051353865)) 58) 64 rfl s (e := 5) (k := .u64) (nog rfl _) rfl (by kernel_rfl) rfl (by kernel_rfl) (by kernel_rfl) (by kernel_rfl) ?_; intro H I u b J v x y l; clear i
  have z := j b v; clear j
  obtain rfl : u = ([y8 b] : List Value) := y
  refine z1 l a 12 x 0 (y8 b) rfl ?_; intro L m; clear l
  refine bt m a 2 [] [] [(2, i6 (w64 b))] ?_; intro M A; clear m
  refine nlH (h _ _ ?_); clear h q
  refine wp_ret ?_
  refine ra1 A (i6 (w64 b)) ?_
  exact ⟨w64 b, rfl, z, a.below⟩

theorem isp2_walk (u0 : Int)  (Z : Fz) (w : World)  (hZ : Z.on w) {K : Bool → Prop} (hp : isp2_vc u0 K) : Calls Tryd.prog 77 #[i6 u0] w fun e w' => ∃ r : Bool, e = .returned (.bool r) ∧ K r ∧ Below w.heap.size w w' := by
 refine enter0 Tryd.func77 rfl rfl (by kernel_rfl) ?_; intro f b; have a := Mem.start w Z hZ; have g := Fz.le.refl Z
 refine sqB b a [] [] [] ?_; intro h c; clear b
 refine sqB c a [] [] [(2, .bool ((bAnd .i64 u0 (w64 (u0 - 1))) == 0))] ?_; intro i d; clear c
 refine wp_ret ?_
 refine ra1 d (.bool ((bAnd .i64 u0 (w64 (u0 - 1))) == 0)) ?_
 exact ⟨(bAnd .i64 u0 (w64 (u0 - 1))) == 0, rfl, hp, a.below⟩
theorem isp2_fun (u0 : Int)  (Z : Fz) (w : World)  (hZ : Z.on w) : Calls Tryd.prog 77 #[i6 u0] w fun e w' => e = .returned (.bool (isp2 u0)) ∧ Below w.heap.size w w' :=
  (isp2_walk u0  Z w  hZ (isp2_ok u0)).mono fun _ _ ⟨r, he, hk, hb⟩ => ⟨by subst hk; exact he, hb⟩

end Go.Proofs.YtginlmgkimfjmaaDoor
set_option linter.unusedVariables false
set_option linter.unusedSimpArgs false
set_option maxRecDepth 100000
set_option maxHeartbeats 0
namespace Go.Proofs.YtginlmgkimfjmaaDoor
open Go.Sy Go.RowKit
theorem tz64_fun (u0 : Int) (hpre : u0 = 2)  (Z : Fz) (w : World) (hg3 : SlR t8 Z (sm 3) 64 deBruijn64) (hZ : Z.on w) : Calls Tryd.prog 81 #[y6 u0] w fun e w' => e = .returned (i6 (tz64S u0)) ∧ Below w.heap.size w w' :=
  (tz64_walk u0  Z w hg3 hZ (tz64_ok u0 hpre)).mono fun _ _ ⟨r, he, hk, hb⟩ => ⟨by subst hk; exact he, hb⟩

theorem tz_walk (u0 : Int)  (Z : Fz) (w : World) (hg3 : SlR t8 Z (sm 3) 64 deBruijn64) (hZ : Z.on w) {K : Int → Prop} (hp : tz_vc u0 K) : Calls Tryd.prog 78 #[y6 u0] w fun e w' => ∃ r : Int, e = .returned (i6 r) ∧ K r ∧ Below w.heap.size w w' := by
 refine enter0 Tryd.func78 rfl rfl (by kernel_rfl) ?_; intro m c; have a := Mem.start w Z hZ; have n := Fz.le.refl Z
 refine sqB c a [] [] [] ?_; intro o b; clear c
 refine wp_seq ?_
 refine cdF b (by kernel_rfl) ?_
 refine wp_skip ?_
 refine thn ?_
 refine sqH ?_; intro h d
 refine s1 b 6 (y6 u0) ?_; intro p f; clear b
 obtain ⟨i, j⟩ := hp
 refine fc f a (tz64_fun u0 i _ _ hg3 a.fz) ?_; intro q s g k; clear f a
 refine s1 g 2 (i6 (tz64S u0)) ?_; intro t l; clear g
 refine nlH (d _ _ ?_); clear d h
 refine wp_ret ?_
 refine ra1 l (i6 (tz64S u0)) ?_
 exact ⟨(tz64S u0), rfl, j, k.below⟩

theorem fbits_walk (u1 : Int) (u3 : Bool)  (Z : Fz) (w : World) (hg3 : SlR t8 Z (sm 3) 64 deBruijn64) (hZ : Z.on w) {K : ((List Int) × (List UInt8)) → Prop} (hp : fbits_vc u1 u3 K) : Calls Tryd.prog 68 #[.slice none 0 0, y6 u1, i6 2, .bool u3, .bool false] w fun e w' => ∃ (r : (List Int) × (List UInt8)) (ao1001 : Option Addr) (cap1002 : Nat) (Z' : Fz), e = .returned (.tuple #[.slice ao1001 r.1.length cap1002, str r.2]) ∧ K r ∧ Mem w.heap.size [] w Z [.own t8 5 ao1001 cap1002 r.1] Z' w' := by
 refine enter0 Tryd.func68 rfl rfl (by kernel_rfl) ?_; intro a0 aX; have Q := Mem.start w Z hZ; have y := Fz.le.refl Z
 refine sqB aX Q [] [] [(10, .slice none 0 0), (11, str [])] ?_; intro a4 aY; clear aX
 refine wp_seq ?_
 refine sqB aY Q [] [22, 23, 24, 26, 27, 28] [(28, .bool false)] ?_; intro f9 al; clear aY
 refine cdF al (by kernel_rfl) ?_
 refine wp_skip ?_
 refine thn ?_
 refine sqH ?_; intro dB aZ
 refine alA (T := t8) al Q 65 (y8 0) 0 123 (nog rfl _) rfl (by kernel_rfl) (by kernel_rfl) rfl (by decide) rfl ?_; intro c ga dC a1 a2; clear al Q
 have p : Mem w.heap.size [] w Z [.own t8 123 (sm c) 65 (List.replicate 65 (0 : Int))] Z dC := a2; clear a2
 refine nlH (aZ _ _ ?_); clear aZ dB
 refine sqB a1 p [] [] [(13, i6 65)] ?_; intro gb a3; clear a1
 refine wp_seq ?_
 refine sqB a3 p [] [] [(30, .bool u3)] ?_; intro gc G; clear a3
 refine cd G (t := u3) (by kernel_rfl) (fun z => ?_) (fun z => ?_)
 ·
  have R := hp.1 z; clear hp
  refine rgB G p [] [] [(1, y6 (wu64 (0 - u1)))] ?_; intro gd a5; clear G
  refine thn ?_
  refine wp_seq ?_
  refine sqH ?_; intro dD a6
  refine s1 a5 33 (i6 2) ?_; intro ge a7; clear a5
  refine fc a7 p (isp2_fun 2 _ _ p.fz) ?_; intro gf gg H A; clear a7 p
  refine nlH (a6 _ _ ?_); clear a6 dD
  refine cd H (t := (isp2 2)) (by kernel_rfl) (fun am => ?_) (fun am => ?_)
  ·
   have dE := R.1 am; clear R
   refine sqH ?_; intro dF a8
   refine bt H A 2 [] [] [(36, y6 2)] ?_; intro gh a9; clear H
   refine ck a9 78 #[y6 2] ?_
   refine (tz_walk 2 _ _ hg3 A.fz dE).mono ?_; rintro _ gi ⟨i, rfl, dG, hb⟩; refine ⟨_, rfl, ?_⟩; intro gj ba; have I := A.call hb; clear hb A a9
   refine bt ba I 2 [] [] [(14, y6 (wu64 i))] ?_; intro gk bb; clear ba
   refine nlH (a8 _ _ ?_); clear a8 dF
   refine sqB bb I [] [] [(15, y6 2)] ?_; intro gl bc; clear bb
   refine sqB bc I [] [] [(16, y6 (wu64 (2 - 1)))] ?_; intro bd be; clear bc
   refine wp_seq ?_
   refine wp_block ?_
   have bf : Fr 102 [] [⟨0, [], .slice none 0 0⟩, ⟨1, [], y6 (wu64 (0 - u1))⟩, ⟨3, [], .bool u3⟩, ⟨4, [], .bool false⟩, ⟨10, [], .slice none 0 0⟩, ⟨11, [], str []⟩, ⟨12, [], pt c 0⟩, ⟨13, [], i6 65⟩, ⟨14, [], y6 (wu64 i)⟩, ⟨15, [], y6 2⟩, ⟨16, [], y6 (wu64 (2 - 1))⟩] bd := be.reg; clear be
   have bg : Fr 102 [] [⟨0, [], .slice none 0 0⟩, ⟨1, [], y6 (wu64 (0 - u1))⟩, ⟨3, [], .bool u3⟩, ⟨4, [], .bool false⟩, ⟨10, [], .slice none 0 0⟩, ⟨11, [], str []⟩, ⟨12, [], pt c 0⟩, ⟨13, [], i6 65⟩, ⟨14, [], y6 (wu64 i)⟩, ⟨15, [], y6 2⟩, ⟨16, [], y6 (wu64 (2 - 1))⟩] bd := bf.reg; clear bf
   obtain ⟨dH, dI, dJ, dK⟩ := dG
   refine lp (ι := Int × Int × (List Int)) (fun s => [⟨0, [], .slice none 0 0⟩, ⟨1, [], y6 s.1⟩, ⟨3, [], .bool u3⟩, ⟨4, [], .bool false⟩, ⟨10, [], .slice none 0 0⟩, ⟨11, [], str []⟩, ⟨12, [], pt c 0⟩, ⟨13, [], i6 s.2.1⟩, ⟨14, [], y6 (wu64 i)⟩, ⟨15, [], y6 2⟩, ⟨16, [], y6 (wu64 (2 - 1))⟩]) (fun s => [.own t8 123 (sm c) 65 s.2.2]) (fun s => Z) (fun s => dH s.1 s.2.1 s.2.2) (fun s => dI s.1 s.2.1 s.2.2) ⟨wu64 (0 - u1), 65, (List.replicate 65 (0 : Int))⟩ dJ (by exact bg.reg) (by exact I) ?_
   rintro ⟨b, a, d⟩ dL dM dN bh bi
   have bj : Fr 102 [] [⟨0, [], .slice none 0 0⟩, ⟨1, [], y6 b⟩, ⟨3, [], .bool u3⟩, ⟨4, [], .bool false⟩, ⟨10, [], .slice none 0 0⟩, ⟨11, [], str []⟩, ⟨12, [], pt c 0⟩, ⟨13, [], i6 a⟩, ⟨14, [], y6 (wu64 i)⟩, ⟨15, [], y6 2⟩, ⟨16, [], y6 (wu64 (2 - 1))⟩] dM := bh; clear bh bg
   have v : Mem w.heap.size [] w Z [.own t8 123 (sm c) 65 d] Z dN := bi; clear bi I
   have S := dK b a d dL
   refine wp_seq ?_
   refine sqB bj v [] [] [(46, .bool (decide (b ≥ 2)))] ?_; intro gm J; clear bj
   refine cd J (t := decide (b ≥ 2)) (by kernel_rfl) (fun an => ?_) (fun an => ?_)
   ·
    have dO := S.1 an; clear S
    refine wp_skip ?_
    refine thn ?_
    refine wp_block ?_
    refine sqB J v [] [] [(13, i6 (w64 (a - 1)))] ?_; intro gn bk; clear J
    refine sqH ?_; intro dP bl
    refine bt bk v 4 [] [] [(49, i6 (w64 (a - 1))), (52, y6 (bAnd .u64 b (wu64 (2 - 1))))] ?_; intro go bm; clear bk
    obtain ⟨dQ, dR⟩ := dO
    obtain ⟨C, bn⟩ : ∃ q, ([48, 49, 50, 51, 52, 53, 54, 55, 56, 57, 97, 98, 99, 100, 101, 102, 103, 104, 105, 106, 107, 108, 109, 110, 111, 112, 113, 114, 115, 116, 117, 118, 119, 120, 121, 122] : List UInt8)[(bAnd .u64 b (wu64 (2 - 1))).toNat]? = some q := ⟨_, List.getElem?_eq_getElem (by omega)⟩; have dS := dR C bn
    refine si bm .u64 dQ.1 bn ?_; intro gp bo; clear bm
    obtain ⟨dT, dU⟩ := dS
    refine ixA (g := c) bo (w64 (a - 1)) 65 1 dT.1 (e := 5) (k := .i64) (nog rfl _) rfl (by kernel_rfl) rfl (by kernel_rfl) (by kernel_rfl) (by kernel_rfl) ?_; intro dV U; clear bo
    refine so U v 0 (T := t8) (xs := d) (w64 (a - 1)).toNat (C.toNat : Int) (u := y8 (C.toNat : Int)) (nog rfl _) rfl rfl (by kernel_rfl) rfl (by kernel_rfl) rfl (by kernel_rfl) (by first | omega | (simp only [List.length_set] at *; omega)) rfl ?_; intro dW bp; clear v
    have bq : Fr 102 [] [⟨0, [], .slice none 0 0⟩, ⟨1, [], y6 b⟩, ⟨3, [], .bool u3⟩, ⟨4, [], .bool false⟩, ⟨10, [], .slice none 0 0⟩, ⟨11, [], str []⟩, ⟨12, [], pt c 0⟩, ⟨13, [], i6 (w64 (a - 1))⟩, ⟨14, [], y6 (wu64 i)⟩, ⟨15, [], y6 2⟩, ⟨16, [], y6 (wu64 (2 - 1))⟩, ⟨46, [], .bool (decide (b ≥ 2))⟩, ⟨49, [], i6 (w64 (a - 1))⟩, ⟨52, [], y6 (bAnd .u64 b (wu64 (2 - 1)))⟩, ⟨53, [], y8 (C.toNat : Int)⟩, ⟨54, [], .pointer (some ⟨c, (w64 (a - 1)).toNat * 1, none⟩)⟩] dV := by (try simp only [List.length_set] at U); (try simp only [List.length_set]); exact U.reg
    clear U
    have br : Mem w.heap.size [] w Z [.own t8 123 (sm c) 65 (d.set (w64 (a - 1)).toNat (C.toNat : Int))] Z dW := bp; clear bp
    refine nlH (bl _ _ ?_); clear bl dP
    refine rgH ?_; intro dX bs
    refine bt bq br 2 [] [] [(55, y6 b), (56, y6 (wu64 i))] ?_; intro gq ap; clear bq
    obtain ⟨dY, bu⟩ := dU
    refine st ap (y6 (bShr .u64 b (wu64 i))) (nog rfl _) rfl (by kernel_rfl) (shr_run ap (g := []) (k' := .u64) rfl (by kernel_rfl) (by kernel_rfl) dY rfl) ?_; intro gr bv; clear ap
    refine s1 bv 1 (y6 (bShr .u64 b (wu64 i))) ?_; intro gs dZ; clear bv
    refine nlH (bs _ _ ?_); clear bs dX
    refine ibn ?_
    refine rd ?_
    exact ⟨⟨bShr .u64 b (wu64 i), w64 (a - 1), d.set (w64 (a - 1)).toNat (C.toNat : Int)⟩, bu.1, bu.2, (dZ.reg).anyβ _ (by kernel_rfl), br.keep (List.Sublist.cons_cons _ (List.Sublist.slnil))⟩
   have d0 := S.2 an; clear S
   refine wp_exit ?_
   refine thx ?_
   refine thx ?_
   refine ibx ?_
   refine thn ?_
   refine sqB J v [] [] [(13, i6 (w64 (a - 1)))] ?_; intro gt bw; clear J
   refine rgH ?_; intro d1 bx
   refine bt bw v 2 [] [] [(60, i6 (w64 (a - 1))), (61, y6 b)] ?_; intro gu bz; clear bw
   obtain ⟨d2, d3⟩ := d0
   obtain ⟨f, bA⟩ : ∃ q, ([48, 49, 50, 51, 52, 53, 54, 55, 56, 57, 97, 98, 99, 100, 101, 102, 103, 104, 105, 106, 107, 108, 109, 110, 111, 112, 113, 114, 115, 116, 117, 118, 119, 120, 121, 122] : List UInt8)[b.toNat]? = some q := ⟨_, List.getElem?_eq_getElem (by omega)⟩; have d4 := d3 f bA
   refine si bz .u64 d2.1 bA ?_; intro gv bB; clear bz
   obtain ⟨d5, d6⟩ := d4
   refine ixA (g := c) bB (w64 (a - 1)) 65 1 d5.1 (e := 5) (k := .i64) (nog rfl _) rfl (by kernel_rfl) rfl (by kernel_rfl) (by kernel_rfl) (by kernel_rfl) ?_; intro d7 V; clear bB
   refine so V v 0 (T := t8) (xs := d) (w64 (a - 1)).toNat (f.toNat : Int) (u := y8 (f.toNat : Int)) (nog rfl _) rfl rfl (by kernel_rfl) rfl (by kernel_rfl) rfl (by kernel_rfl) (by first | omega | (simp only [List.length_set] at *; omega)) rfl ?_; intro d8 bC; clear v
   have bD : Fr 102 [] [⟨0, [], .slice none 0 0⟩, ⟨1, [], y6 b⟩, ⟨3, [], .bool u3⟩, ⟨4, [], .bool false⟩, ⟨10, [], .slice none 0 0⟩, ⟨11, [], str []⟩, ⟨12, [], pt c 0⟩, ⟨13, [], i6 (w64 (a - 1))⟩, ⟨14, [], y6 (wu64 i)⟩, ⟨15, [], y6 2⟩, ⟨16, [], y6 (wu64 (2 - 1))⟩, ⟨46, [], .bool (decide (b ≥ 2))⟩, ⟨60, [], i6 (w64 (a - 1))⟩, ⟨61, [], y6 b⟩, ⟨62, [], y8 (f.toNat : Int)⟩, ⟨63, [], .pointer (some ⟨c, (w64 (a - 1)).toNat * 1, none⟩)⟩] d7 := by (try simp only [List.length_set] at V); (try simp only [List.length_set]); exact V.reg
   clear V
   have W : Mem w.heap.size [] w Z [.own t8 123 (sm c) 65 (d.set (w64 (a - 1)).toNat (f.toNat : Int))] Z d8 := bC; clear bC
   refine nlH (bx _ _ ?_); clear bx d1
   refine thn ?_
   refine wp_seq ?_
   refine sqB bD W [] [] [(89, .bool u3)] ?_; intro gw aq; clear bD
   refine cy aq z ?_
   refine sqB aq W [] [] [(13, i6 (w64 ((w64 (a - 1)) - 1)))] ?_; intro gx bE; clear aq
   refine rgH ?_; intro d9 bF
   refine s1 bE 92 (i6 (w64 ((w64 (a - 1)) - 1))) ?_; intro gy bG; clear bE
   obtain ⟨ea, eb⟩ := d6
   refine ixA (g := c) bG (w64 ((w64 (a - 1)) - 1)) 65 1 ea.1 (e := 5) (k := .i64) (nog rfl _) rfl (by kernel_rfl) rfl (by kernel_rfl) (by kernel_rfl) (by kernel_rfl) ?_; intro ec X; clear bG
   refine so X W 0 (T := t8) (xs := d.set (w64 (a - 1)).toNat (f.toNat : Int)) (w64 ((w64 (a - 1)) - 1)).toNat 45 (u := y8 45) (nog rfl _) rfl rfl (by kernel_rfl) rfl (by kernel_rfl) rfl (by kernel_rfl) (by first | omega | (simp only [List.length_set] at *; omega)) rfl ?_; intro ar bH; clear W
   have bI : Fr 102 [] [⟨0, [], .slice none 0 0⟩, ⟨1, [], y6 b⟩, ⟨3, [], .bool u3⟩, ⟨4, [], .bool false⟩, ⟨10, [], .slice none 0 0⟩, ⟨11, [], str []⟩, ⟨12, [], pt c 0⟩, ⟨13, [], i6 (w64 ((w64 (a - 1)) - 1))⟩, ⟨14, [], y6 (wu64 i)⟩, ⟨15, [], y6 2⟩, ⟨16, [], y6 (wu64 (2 - 1))⟩, ⟨46, [], .bool (decide (b ≥ 2))⟩, ⟨60, [], i6 (w64 (a - 1))⟩, ⟨61, [], y6 b⟩, ⟨62, [], y8 (f.toNat : Int)⟩, ⟨63, [], .pointer (some ⟨c, (w64 (a - 1)).toNat * 1, none⟩)⟩, ⟨89, [], .bool u3⟩, ⟨92, [], i6 (w64 ((w64 (a - 1)) - 1))⟩, ⟨93, [], .pointer (some ⟨c, (w64 ((w64 (a - 1)) - 1)).toNat * 1, none⟩)⟩] ec := by (try simp only [List.length_set] at X); (try simp only [List.length_set]); exact X.reg
   clear X
   have bJ : Mem w.heap.size [] w Z [.own t8 123 (sm c) 65 ((d.set (w64 (a - 1)).toNat (f.toNat : Int)).set (w64 ((w64 (a - 1)) - 1)).toNat 45)] Z ar := bH; clear bH
   refine nlH (bF _ _ ?_); clear bF d9
   refine thn ?_
   refine wp_seq ?_
   refine sqB bI bJ [] [] [(94, .bool false)] ?_; intro gz au; clear bI
   refine cdF au (by kernel_rfl) ?_
   refine wp_skip ?_
   refine thn ?_
   refine sqH ?_; intro ed bK
   refine s1 au 99 (i6 (w64 ((w64 (a - 1)) - 1))) ?_; intro gA bL; clear au
   obtain ⟨bM, ee⟩ := eb
   obtain ⟨av, bN, bO, ef⟩ := bJ.freeze 0 rfl
   replace hg3 := hg3.mono bN
   replace y := Fz.le.trans y bN
   have aw : Mem w.heap.size [] w Z [] av ar := bO; clear bO
   refine slA bL (T := t8) (xs := (d.set (w64 (a - 1)).toNat (f.toNat : Int)).set (w64 ((w64 (a - 1)) - 1)).toNat 45) ef 65 (w64 ((w64 (a - 1)) - 1)) bM.2 bM.1 (e := 5) (k := .i64) (nog rfl _) rfl (by kernel_rfl) rfl (by kernel_rfl) (by kernel_rfl) (by kernel_rfl) ?_; intro eg eh gB gC ei ax; clear bL
   refine st ax (str (bstr (((d.set (w64 (a - 1)).toNat (f.toNat : Int)).set (w64 ((w64 (a - 1)) - 1)).toNat 45).drop (w64 ((w64 (a - 1)) - 1)).toNat))) (nog rfl _) rfl (by kernel_rfl) (bstr_op ax (g := []) (e := 5) (ao := eg) (cap := eh) (xs := (((d.set (w64 (a - 1)).toNat (f.toNat : Int)).set (w64 ((w64 (a - 1)) - 1)).toNat 45).drop (w64 ((w64 (a - 1)) - 1)).toNat)) rfl (by kernel_rfl) (by kernel_rfl) (by kernel_rfl) (by kernel_rfl) ei aw.fz rfl) ?_; intro gD bP; clear ax
   refine s1 bP 11 (str (bstr (((d.set (w64 (a - 1)).toNat (f.toNat : Int)).set (w64 ((w64 (a - 1)) - 1)).toNat 45).drop (w64 ((w64 (a - 1)) - 1)).toNat))) ?_; intro gE ej; clear bP
   refine nlH (bK _ _ ?_); clear bK ed
   refine wp_ret ?_
   have ek : Mem w.heap.size [] w Z [.own t8 5 none 0 ([] : List Int)] av ar := aw.addNil t8 5 (by decide); clear aw
   refine ra2 ej (.tuple #[.slice none ([] : List Int).length 0, str (bstr (((d.set (w64 (a - 1)).toNat (f.toNat : Int)).set (w64 ((w64 (a - 1)) - 1)).toNat 45).drop (w64 ((w64 (a - 1)) - 1)).toNat))]) ?_
   exact ⟨(([] : List Int), bstr (((d.set (w64 (a - 1)).toNat (f.toNat : Int)).set (w64 ((w64 (a - 1)) - 1)).toNat 45).drop (w64 ((w64 (a - 1)) - 1)).toNat)), none, 0, av, rfl, ee, ek.keep (List.Sublist.cons_cons _ (List.Sublist.slnil))⟩
  have el := R.2 am; clear R
  refine sqB H A [] [] [(17, y6 2)] ?_; intro bQ bR; clear H
  refine wp_seq ?_
  refine wp_block ?_
  have bS : Fr 102 [] [⟨0, [], .slice none 0 0⟩, ⟨1, [], y6 (wu64 (0 - u1))⟩, ⟨3, [], .bool u3⟩, ⟨4, [], .bool false⟩, ⟨10, [], .slice none 0 0⟩, ⟨11, [], str []⟩, ⟨12, [], pt c 0⟩, ⟨13, [], i6 65⟩, ⟨17, [], y6 2⟩] bQ := bR.reg; clear bR
  have bT : Fr 102 [] [⟨0, [], .slice none 0 0⟩, ⟨1, [], y6 (wu64 (0 - u1))⟩, ⟨3, [], .bool u3⟩, ⟨4, [], .bool false⟩, ⟨10, [], .slice none 0 0⟩, ⟨11, [], str []⟩, ⟨12, [], pt c 0⟩, ⟨13, [], i6 65⟩, ⟨17, [], y6 2⟩] bQ := bS.reg; clear bS
  obtain ⟨em, en, eo, ep⟩ := el
  refine lp (ι := Int × Int × (List Int)) (fun s => [⟨0, [], .slice none 0 0⟩, ⟨1, [], y6 s.1⟩, ⟨3, [], .bool u3⟩, ⟨4, [], .bool false⟩, ⟨10, [], .slice none 0 0⟩, ⟨11, [], str []⟩, ⟨12, [], pt c 0⟩, ⟨13, [], i6 s.2.1⟩, ⟨17, [], y6 2⟩]) (fun s => [.own t8 123 (sm c) 65 s.2.2]) (fun s => Z) (fun s => em s.1 s.2.1 s.2.2) (fun s => en s.1 s.2.1 s.2.2) ⟨wu64 (0 - u1), 65, (List.replicate 65 (0 : Int))⟩ eo (by exact bT.reg) (by exact A) ?_
  rintro ⟨b, a, d⟩ eq er es bU bV
  have bW : Fr 102 [] [⟨0, [], .slice none 0 0⟩, ⟨1, [], y6 b⟩, ⟨3, [], .bool u3⟩, ⟨4, [], .bool false⟩, ⟨10, [], .slice none 0 0⟩, ⟨11, [], str []⟩, ⟨12, [], pt c 0⟩, ⟨13, [], i6 a⟩, ⟨17, [], y6 2⟩] er := bU; clear bU bT
  have n : Mem w.heap.size [] w Z [.own t8 123 (sm c) 65 d] Z es := bV; clear bV A
  have Y := ep b a d eq
  refine wp_seq ?_
  refine sqB bW n [] [] [(68, .bool (decide (b ≥ 2)))] ?_; intro gF L; clear bW
  refine cd L (t := decide (b ≥ 2)) (by kernel_rfl) (fun ay => ?_) (fun ay => ?_)
  ·
   have et := Y.1 ay; clear Y
   refine wp_skip ?_
   refine thn ?_
   refine wp_block ?_
   refine sqB L n [] [] [(13, i6 (w64 (a - 1)))] ?_; intro gG bX; clear L
   refine sqB bX n [] [] [(18, y6 (wu64 (b.tdiv 2)))] ?_; intro gH bY; clear bX
   refine sqH ?_; intro eu bZ
   refine bt bY n 6 [] [] [(74, i6 (w64 (a - 1))), (79, y6 (wu64 (b - (wu64 ((wu64 (b.tdiv 2)) * 2)))))] ?_; intro gI b0; clear bY
   obtain ⟨ev, ew⟩ := et
   obtain ⟨D, b1⟩ : ∃ q, ([48, 49, 50, 51, 52, 53, 54, 55, 56, 57, 97, 98, 99, 100, 101, 102, 103, 104, 105, 106, 107, 108, 109, 110, 111, 112, 113, 114, 115, 116, 117, 118, 119, 120, 121, 122] : List UInt8)[(wu64 (b - (wu64 ((wu64 (b.tdiv 2)) * 2)))).toNat]? = some q := ⟨_, List.getElem?_eq_getElem (by omega)⟩; have ex := ew D b1
   refine si b0 .u64 ev.1 b1 ?_; intro gJ b2; clear b0
   obtain ⟨ey, b3⟩ := ex
   refine ixA (g := c) b2 (w64 (a - 1)) 65 1 ey.1 (e := 5) (k := .i64) (nog rfl _) rfl (by kernel_rfl) rfl (by kernel_rfl) (by kernel_rfl) (by kernel_rfl) ?_; intro ez aa; clear b2
   refine so aa n 0 (T := t8) (xs := d) (w64 (a - 1)).toNat (D.toNat : Int) (u := y8 (D.toNat : Int)) (nog rfl _) rfl rfl (by kernel_rfl) rfl (by kernel_rfl) rfl (by kernel_rfl) (by first | omega | (simp only [List.length_set] at *; omega)) rfl ?_; intro eA b4; clear n
   have b5 : Fr 102 [] [⟨0, [], .slice none 0 0⟩, ⟨1, [], y6 b⟩, ⟨3, [], .bool u3⟩, ⟨4, [], .bool false⟩, ⟨10, [], .slice none 0 0⟩, ⟨11, [], str []⟩, ⟨12, [], pt c 0⟩, ⟨13, [], i6 (w64 (a - 1))⟩, ⟨17, [], y6 2⟩, ⟨18, [], y6 (wu64 (b.tdiv 2))⟩, ⟨68, [], .bool (decide (b ≥ 2))⟩, ⟨74, [], i6 (w64 (a - 1))⟩, ⟨79, [], y6 (wu64 (b - (wu64 ((wu64 (b.tdiv 2)) * 2))))⟩, ⟨80, [], y8 (D.toNat : Int)⟩, ⟨81, [], .pointer (some ⟨c, (w64 (a - 1)).toNat * 1, none⟩)⟩] ez := by (try simp only [List.length_set] at aa); (try simp only [List.length_set]); exact aa.reg
   clear aa
   have b6 : Mem w.heap.size [] w Z [.own t8 123 (sm c) 65 (d.set (w64 (a - 1)).toNat (D.toNat : Int))] Z eA := b4; clear b4
   refine nlH (bZ _ _ ?_); clear bZ eu
   refine rgB b5 b6 [] [] [(1, y6 (wu64 (b.tdiv 2)))] ?_; intro gK eB; clear b5
   refine ibn ?_
   refine rd ?_
   exact ⟨⟨wu64 (b.tdiv 2), w64 (a - 1), d.set (w64 (a - 1)).toNat (D.toNat : Int)⟩, b3.1, b3.2, (eB.reg).anyβ _ (by kernel_rfl), b6.keep (List.Sublist.cons_cons _ (List.Sublist.slnil))⟩
  have eC := Y.2 ay; clear Y
  refine wp_exit ?_
  refine thx ?_
  refine thx ?_
  refine ibx ?_
  refine thn ?_
  refine sqB L n [] [] [(13, i6 (w64 (a - 1)))] ?_; intro gL b7; clear L
  refine rgH ?_; intro eD b8
  refine bt b7 n 2 [] [] [(85, i6 (w64 (a - 1))), (86, y6 b)] ?_; intro gM b9; clear b7
  obtain ⟨eE, eF⟩ := eC
  obtain ⟨h, ca⟩ : ∃ q, ([48, 49, 50, 51, 52, 53, 54, 55, 56, 57, 97, 98, 99, 100, 101, 102, 103, 104, 105, 106, 107, 108, 109, 110, 111, 112, 113, 114, 115, 116, 117, 118, 119, 120, 121, 122] : List UInt8)[b.toNat]? = some q := ⟨_, List.getElem?_eq_getElem (by omega)⟩; have eG := eF h ca
  refine si b9 .u64 eE.1 ca ?_; intro gN cb; clear b9
  obtain ⟨eH, eI⟩ := eG
  refine ixA (g := c) cb (w64 (a - 1)) 65 1 eH.1 (e := 5) (k := .i64) (nog rfl _) rfl (by kernel_rfl) rfl (by kernel_rfl) (by kernel_rfl) (by kernel_rfl) ?_; intro eJ ab; clear cb
  refine so ab n 0 (T := t8) (xs := d) (w64 (a - 1)).toNat (h.toNat : Int) (u := y8 (h.toNat : Int)) (nog rfl _) rfl rfl (by kernel_rfl) rfl (by kernel_rfl) rfl (by kernel_rfl) (by first | omega | (simp only [List.length_set] at *; omega)) rfl ?_; intro eK cc; clear n
  have ce : Fr 102 [] [⟨0, [], .slice none 0 0⟩, ⟨1, [], y6 b⟩, ⟨3, [], .bool u3⟩, ⟨4, [], .bool false⟩, ⟨10, [], .slice none 0 0⟩, ⟨11, [], str []⟩, ⟨12, [], pt c 0⟩, ⟨13, [], i6 (w64 (a - 1))⟩, ⟨17, [], y6 2⟩, ⟨68, [], .bool (decide (b ≥ 2))⟩, ⟨85, [], i6 (w64 (a - 1))⟩, ⟨86, [], y6 b⟩, ⟨87, [], y8 (h.toNat : Int)⟩, ⟨88, [], .pointer (some ⟨c, (w64 (a - 1)).toNat * 1, none⟩)⟩] eJ := by (try simp only [List.length_set] at ab); (try simp only [List.length_set]); exact ab.reg
  clear ab
  have ac : Mem w.heap.size [] w Z [.own t8 123 (sm c) 65 (d.set (w64 (a - 1)).toNat (h.toNat : Int))] Z eK := cc; clear cc
  refine nlH (b8 _ _ ?_); clear b8 eD
  refine thn ?_
  refine wp_seq ?_
  refine sqB ce ac [] [] [(89, .bool u3)] ?_; intro gO az; clear ce
  refine cy az z ?_
  refine sqB az ac [] [] [(13, i6 (w64 ((w64 (a - 1)) - 1)))] ?_; intro gP cf; clear az
  refine rgH ?_; intro eL cg
  refine s1 cf 92 (i6 (w64 ((w64 (a - 1)) - 1))) ?_; intro gQ ch; clear cf
  obtain ⟨eM, eN⟩ := eI
  refine ixA (g := c) ch (w64 ((w64 (a - 1)) - 1)) 65 1 eM.1 (e := 5) (k := .i64) (nog rfl _) rfl (by kernel_rfl) rfl (by kernel_rfl) (by kernel_rfl) (by kernel_rfl) ?_; intro eO ad; clear ch
  refine so ad ac 0 (T := t8) (xs := d.set (w64 (a - 1)).toNat (h.toNat : Int)) (w64 ((w64 (a - 1)) - 1)).toNat 45 (u := y8 45) (nog rfl _) rfl rfl (by kernel_rfl) rfl (by kernel_rfl) rfl (by kernel_rfl) (by first | omega | (simp only [List.length_set] at *; omega)) rfl ?_; intro aA ci; clear ac
  have cj : Fr 102 [] [⟨0, [], .slice none 0 0⟩, ⟨1, [], y6 b⟩, ⟨3, [], .bool u3⟩, ⟨4, [], .bool false⟩, ⟨10, [], .slice none 0 0⟩, ⟨11, [], str []⟩, ⟨12, [], pt c 0⟩, ⟨13, [], i6 (w64 ((w64 (a - 1)) - 1))⟩, ⟨17, [], y6 2⟩, ⟨68, [], .bool (decide (b ≥ 2))⟩, ⟨85, [], i6 (w64 (a - 1))⟩, ⟨86, [], y6 b⟩, ⟨87, [], y8 (h.toNat : Int)⟩, ⟨88, [], .pointer (some ⟨c, (w64 (a - 1)).toNat * 1, none⟩)⟩, ⟨89, [], .bool u3⟩, ⟨92, [], i6 (w64 ((w64 (a - 1)) - 1))⟩, ⟨93, [], .pointer (some ⟨c, (w64 ((w64 (a - 1)) - 1)).toNat * 1, none⟩)⟩] eO := by (try simp only [List.length_set] at ad); (try simp only [List.length_set]); exact ad.reg
  clear ad
  have cl : Mem w.heap.size [] w Z [.own t8 123 (sm c) 65 ((d.set (w64 (a - 1)).toNat (h.toNat : Int)).set (w64 ((w64 (a - 1)) - 1)).toNat 45)] Z aA := ci; clear ci
  refine nlH (cg _ _ ?_); clear cg eL
  refine thn ?_
  refine wp_seq ?_
  refine sqB cj cl [] [] [(94, .bool false)] ?_; intro gR aB; clear cj
  refine cdF aB (by kernel_rfl) ?_
  refine wp_skip ?_
  refine thn ?_
  refine sqH ?_; intro eP cm
  refine s1 aB 99 (i6 (w64 ((w64 (a - 1)) - 1))) ?_; intro gS co; clear aB
  obtain ⟨cp, eQ⟩ := eN
  obtain ⟨aC, cq, cr, eR⟩ := cl.freeze 0 rfl
  replace hg3 := hg3.mono cq
  replace y := Fz.le.trans y cq
  have aD : Mem w.heap.size [] w Z [] aC aA := cr; clear cr
  refine slA co (T := t8) (xs := (d.set (w64 (a - 1)).toNat (h.toNat : Int)).set (w64 ((w64 (a - 1)) - 1)).toNat 45) eR 65 (w64 ((w64 (a - 1)) - 1)) cp.2 cp.1 (e := 5) (k := .i64) (nog rfl _) rfl (by kernel_rfl) rfl (by kernel_rfl) (by kernel_rfl) (by kernel_rfl) ?_; intro eS eT gT gU eU aE; clear co
  refine st aE (str (bstr (((d.set (w64 (a - 1)).toNat (h.toNat : Int)).set (w64 ((w64 (a - 1)) - 1)).toNat 45).drop (w64 ((w64 (a - 1)) - 1)).toNat))) (nog rfl _) rfl (by kernel_rfl) (bstr_op aE (g := []) (e := 5) (ao := eS) (cap := eT) (xs := (((d.set (w64 (a - 1)).toNat (h.toNat : Int)).set (w64 ((w64 (a - 1)) - 1)).toNat 45).drop (w64 ((w64 (a - 1)) - 1)).toNat)) rfl (by kernel_rfl) (by kernel_rfl) (by kernel_rfl) (by kernel_rfl) eU aD.fz rfl) ?_; intro gV cs; clear aE
  refine s1 cs 11 (str (bstr (((d.set (w64 (a - 1)).toNat (h.toNat : Int)).set (w64 ((w64 (a - 1)) - 1)).toNat 45).drop (w64 ((w64 (a - 1)) - 1)).toNat))) ?_; intro gW eV; clear cs
  refine nlH (cm _ _ ?_); clear cm eP
  refine wp_ret ?_
  have eW : Mem w.heap.size [] w Z [.own t8 5 none 0 ([] : List Int)] aC aA := aD.addNil t8 5 (by decide); clear aD
  refine ra2 eV (.tuple #[.slice none ([] : List Int).length 0, str (bstr (((d.set (w64 (a - 1)).toNat (h.toNat : Int)).set (w64 ((w64 (a - 1)) - 1)).toNat 45).drop (w64 ((w64 (a - 1)) - 1)).toNat))]) ?_
  exact ⟨(([] : List Int), bstr (((d.set (w64 (a - 1)).toNat (h.toNat : Int)).set (w64 ((w64 (a - 1)) - 1)).toNat 45).drop (w64 ((w64 (a - 1)) - 1)).toNat)), none, 0, aC, rfl, eQ, eW.keep (List.Sublist.cons_cons _ (List.Sublist.slnil))⟩
 have ae := hp.2 z; clear hp
 refine wp_skip ?_
 refine thn ?_
 refine wp_seq ?_
 refine sqH ?_; intro eX ct
 refine s1 G 33 (i6 2) ?_; intro gX cu; clear G
 refine fc cu p (isp2_fun 2 _ _ p.fz) ?_; intro gY gZ M B; clear cu p
 refine nlH (ct _ _ ?_); clear ct eX
 refine cd M (t := (isp2 2)) (by kernel_rfl) (fun aF => ?_) (fun aF => ?_)
 ·
  have eY := ae.1 aF; clear ae
  refine sqH ?_; intro eZ cv
  refine bt M B 2 [] [] [(36, y6 2)] ?_; intro g0 cw; clear M
  refine ck cw 78 #[y6 2] ?_
  refine (tz_walk 2 _ _ hg3 B.fz eY).mono ?_; rintro _ g1 ⟨j, rfl, e0, hb⟩; refine ⟨_, rfl, ?_⟩; intro g2 cx; have N := B.call hb; clear hb B cw
  refine bt cx N 2 [] [] [(14, y6 (wu64 j))] ?_; intro g3 cz; clear cx
  refine nlH (cv _ _ ?_); clear cv eZ
  refine sqB cz N [] [] [(15, y6 2)] ?_; intro g4 cA; clear cz
  refine sqB cA N [] [] [(16, y6 (wu64 (2 - 1)))] ?_; intro cB cC; clear cA
  refine wp_seq ?_
  refine wp_block ?_
  have cD : Fr 102 [] [⟨0, [], .slice none 0 0⟩, ⟨1, [], y6 u1⟩, ⟨3, [], .bool u3⟩, ⟨4, [], .bool false⟩, ⟨10, [], .slice none 0 0⟩, ⟨11, [], str []⟩, ⟨12, [], pt c 0⟩, ⟨13, [], i6 65⟩, ⟨14, [], y6 (wu64 j)⟩, ⟨15, [], y6 2⟩, ⟨16, [], y6 (wu64 (2 - 1))⟩] cB := cC.reg; clear cC
  have cE : Fr 102 [] [⟨0, [], .slice none 0 0⟩, ⟨1, [], y6 u1⟩, ⟨3, [], .bool u3⟩, ⟨4, [], .bool false⟩, ⟨10, [], .slice none 0 0⟩, ⟨11, [], str []⟩, ⟨12, [], pt c 0⟩, ⟨13, [], i6 65⟩, ⟨14, [], y6 (wu64 j)⟩, ⟨15, [], y6 2⟩, ⟨16, [], y6 (wu64 (2 - 1))⟩] cB := cD.reg; clear cD
  obtain ⟨e1, e2, e3, e4⟩ := e0
  refine lp (ι := Int × Int × (List Int)) (fun s => [⟨0, [], .slice none 0 0⟩, ⟨1, [], y6 s.1⟩, ⟨3, [], .bool u3⟩, ⟨4, [], .bool false⟩, ⟨10, [], .slice none 0 0⟩, ⟨11, [], str []⟩, ⟨12, [], pt c 0⟩, ⟨13, [], i6 s.2.1⟩, ⟨14, [], y6 (wu64 j)⟩, ⟨15, [], y6 2⟩, ⟨16, [], y6 (wu64 (2 - 1))⟩]) (fun s => [.own t8 123 (sm c) 65 s.2.2]) (fun s => Z) (fun s => e1 s.1 s.2.1 s.2.2) (fun s => e2 s.1 s.2.1 s.2.2) ⟨u1, 65, (List.replicate 65 (0 : Int))⟩ e3 (by exact cE.reg) (by exact N) ?_
  rintro ⟨b, a, d⟩ e5 e6 e7 cF cG
  have cH : Fr 102 [] [⟨0, [], .slice none 0 0⟩, ⟨1, [], y6 b⟩, ⟨3, [], .bool u3⟩, ⟨4, [], .bool false⟩, ⟨10, [], .slice none 0 0⟩, ⟨11, [], str []⟩, ⟨12, [], pt c 0⟩, ⟨13, [], i6 a⟩, ⟨14, [], y6 (wu64 j)⟩, ⟨15, [], y6 2⟩, ⟨16, [], y6 (wu64 (2 - 1))⟩] e6 := cF; clear cF cE
  have x : Mem w.heap.size [] w Z [.own t8 123 (sm c) 65 d] Z e7 := cG; clear cG N
  have af := e4 b a d e5
  refine wp_seq ?_
  refine sqB cH x [] [] [(46, .bool (decide (b ≥ 2)))] ?_; intro g5 O; clear cH
  refine cd O (t := decide (b ≥ 2)) (by kernel_rfl) (fun aG => ?_) (fun aG => ?_)
  ·
   have e8 := af.1 aG; clear af
   refine wp_skip ?_
   refine thn ?_
   refine wp_block ?_
   refine sqB O x [] [] [(13, i6 (w64 (a - 1)))] ?_; intro g6 cI; clear O
   refine sqH ?_; intro e9 cJ
   refine bt cI x 4 [] [] [(49, i6 (w64 (a - 1))), (52, y6 (bAnd .u64 b (wu64 (2 - 1))))] ?_; intro g7 cK; clear cI
   obtain ⟨fa, fb⟩ := e8
   obtain ⟨E, cL⟩ : ∃ q, ([48, 49, 50, 51, 52, 53, 54, 55, 56, 57, 97, 98, 99, 100, 101, 102, 103, 104, 105, 106, 107, 108, 109, 110, 111, 112, 113, 114, 115, 116, 117, 118, 119, 120, 121, 122] : List UInt8)[(bAnd .u64 b (wu64 (2 - 1))).toNat]? = some q := ⟨_, List.getElem?_eq_getElem (by omega)⟩; have fd := fb E cL
   refine si cK .u64 fa.1 cL ?_; intro g8 cM; clear cK
   obtain ⟨fe, ff⟩ := fd
   refine ixA (g := c) cM (w64 (a - 1)) 65 1 fe.1 (e := 5) (k := .i64) (nog rfl _) rfl (by kernel_rfl) rfl (by kernel_rfl) (by kernel_rfl) (by kernel_rfl) ?_; intro fg ag; clear cM
   refine so ag x 0 (T := t8) (xs := d) (w64 (a - 1)).toNat (E.toNat : Int) (u := y8 (E.toNat : Int)) (nog rfl _) rfl rfl (by kernel_rfl) rfl (by kernel_rfl) rfl (by kernel_rfl) (by first | omega | (simp only [List.length_set] at *; omega)) rfl ?_; intro fh cN; clear x
   have cO : Fr 102 [] [⟨0, [], .slice none 0 0⟩, ⟨1, [], y6 b⟩, ⟨3, [], .bool u3⟩, ⟨4, [], .bool false⟩, ⟨10, [], .slice none 0 0⟩, ⟨11, [], str []⟩, ⟨12, [], pt c 0⟩, ⟨13, [], i6 (w64 (a - 1))⟩, ⟨14, [], y6 (wu64 j)⟩, ⟨15, [], y6 2⟩, ⟨16, [], y6 (wu64 (2 - 1))⟩, ⟨46, [], .bool (decide (b ≥ 2))⟩, ⟨49, [], i6 (w64 (a - 1))⟩, ⟨52, [], y6 (bAnd .u64 b (wu64 (2 - 1)))⟩, ⟨53, [], y8 (E.toNat : Int)⟩, ⟨54, [], .pointer (some ⟨c, (w64 (a - 1)).toNat * 1, none⟩)⟩] fg := by (try simp only [List.length_set] at ag); (try simp only [List.length_set]); exact ag.reg
   clear ag
   have cP : Mem w.heap.size [] w Z [.own t8 123 (sm c) 65 (d.set (w64 (a - 1)).toNat (E.toNat : Int))] Z fh := cN; clear cN
   refine nlH (cJ _ _ ?_); clear cJ e9
   refine rgH ?_; intro fi cQ
   refine bt cO cP 2 [] [] [(55, y6 b), (56, y6 (wu64 j))] ?_; intro g9 aH; clear cO
   obtain ⟨fj, cR⟩ := ff
   refine st aH (y6 (bShr .u64 b (wu64 j))) (nog rfl _) rfl (by kernel_rfl) (shr_run aH (g := []) (k' := .u64) rfl (by kernel_rfl) (by kernel_rfl) fj rfl) ?_; intro ha cS; clear aH
   refine s1 cS 1 (y6 (bShr .u64 b (wu64 j))) ?_; intro hc fk; clear cS
   refine nlH (cQ _ _ ?_); clear cQ fi
   refine ibn ?_
   refine rd ?_
   exact ⟨⟨bShr .u64 b (wu64 j), w64 (a - 1), d.set (w64 (a - 1)).toNat (E.toNat : Int)⟩, cR.1, cR.2, (fk.reg).anyβ _ (by kernel_rfl), cP.keep (List.Sublist.cons_cons _ (List.Sublist.slnil))⟩
  have fl := af.2 aG; clear af
  refine wp_exit ?_
  refine thx ?_
  refine thx ?_
  refine ibx ?_
  refine thn ?_
  refine sqB O x [] [] [(13, i6 (w64 (a - 1)))] ?_; intro hd cT; clear O
  refine rgH ?_; intro fm cU
  refine bt cT x 2 [] [] [(60, i6 (w64 (a - 1))), (61, y6 b)] ?_; intro he cV; clear cT
  obtain ⟨fn, fo⟩ := fl
  obtain ⟨l, cW⟩ : ∃ q, ([48, 49, 50, 51, 52, 53, 54, 55, 56, 57, 97, 98, 99, 100, 101, 102, 103, 104, 105, 106, 107, 108, 109, 110, 111, 112, 113, 114, 115, 116, 117, 118, 119, 120, 121, 122] : List UInt8)[b.toNat]? = some q := ⟨_, List.getElem?_eq_getElem (by omega)⟩; have fp := fo l cW
  refine si cV .u64 fn.1 cW ?_; intro hf cX; clear cV
  obtain ⟨fq, fr⟩ := fp
  refine ixA (g := c) cX (w64 (a - 1)) 65 1 fq.1 (e := 5) (k := .i64) (nog rfl _) rfl (by kernel_rfl) rfl (by kernel_rfl) (by kernel_rfl) (by kernel_rfl) ?_; intro fs ah; clear cX
  refine so ah x 0 (T := t8) (xs := d) (w64 (a - 1)).toNat (l.toNat : Int) (u := y8 (l.toNat : Int)) (nog rfl _) rfl rfl (by kernel_rfl) rfl (by kernel_rfl) rfl (by kernel_rfl) (by first | omega | (simp only [List.length_set] at *; omega)) rfl ?_; intro aI cY; clear x
  have cZ : Fr 102 [] [⟨0, [], .slice none 0 0⟩, ⟨1, [], y6 b⟩, ⟨3, [], .bool u3⟩, ⟨4, [], .bool false⟩, ⟨10, [], .slice none 0 0⟩, ⟨11, [], str []⟩, ⟨12, [], pt c 0⟩, ⟨13, [], i6 (w64 (a - 1))⟩, ⟨14, [], y6 (wu64 j)⟩, ⟨15, [], y6 2⟩, ⟨16, [], y6 (wu64 (2 - 1))⟩, ⟨46, [], .bool (decide (b ≥ 2))⟩, ⟨60, [], i6 (w64 (a - 1))⟩, ⟨61, [], y6 b⟩, ⟨62, [], y8 (l.toNat : Int)⟩, ⟨63, [], .pointer (some ⟨c, (w64 (a - 1)).toNat * 1, none⟩)⟩] fs := by (try simp only [List.length_set] at ah); (try simp only [List.length_set]); exact ah.reg
  clear ah
  have aJ : Mem w.heap.size [] w Z [.own t8 123 (sm c) 65 (d.set (w64 (a - 1)).toNat (l.toNat : Int))] Z aI := cY; clear cY
  refine nlH (cU _ _ ?_); clear cU fm
  refine thn ?_
  refine wp_seq ?_
  refine sqB cZ aJ [] [] [(89, .bool u3)] ?_; intro hg aK; clear cZ
  refine cn aK z ?_
  refine wp_skip ?_
  refine thn ?_
  refine wp_seq ?_
  refine sqB aK aJ [] [] [(94, .bool false)] ?_; intro hh aL; clear aK
  refine cdF aL (by kernel_rfl) ?_
  refine wp_skip ?_
  refine thn ?_
  refine sqH ?_; intro ft c0
  refine s1 aL 99 (i6 (w64 (a - 1))) ?_; intro hi c1; clear aL
  obtain ⟨c2, fu⟩ := fr
  obtain ⟨aM, c3, c4, fv⟩ := aJ.freeze 0 rfl
  replace hg3 := hg3.mono c3
  replace y := Fz.le.trans y c3
  have aN : Mem w.heap.size [] w Z [] aM aI := c4; clear c4
  refine slA c1 (T := t8) (xs := d.set (w64 (a - 1)).toNat (l.toNat : Int)) fv 65 (w64 (a - 1)) c2.2 c2.1 (e := 5) (k := .i64) (nog rfl _) rfl (by kernel_rfl) rfl (by kernel_rfl) (by kernel_rfl) (by kernel_rfl) ?_; intro fw fx hj hk fy aO; clear c1
  refine st aO (str (bstr ((d.set (w64 (a - 1)).toNat (l.toNat : Int)).drop (w64 (a - 1)).toNat))) (nog rfl _) rfl (by kernel_rfl) (bstr_op aO (g := []) (e := 5) (ao := fw) (cap := fx) (xs := ((d.set (w64 (a - 1)).toNat (l.toNat : Int)).drop (w64 (a - 1)).toNat)) rfl (by kernel_rfl) (by kernel_rfl) (by kernel_rfl) (by kernel_rfl) fy aN.fz rfl) ?_; intro hl c5; clear aO
  refine s1 c5 11 (str (bstr ((d.set (w64 (a - 1)).toNat (l.toNat : Int)).drop (w64 (a - 1)).toNat))) ?_; intro hm fA; clear c5
  refine nlH (c0 _ _ ?_); clear c0 ft
  refine wp_ret ?_
  have fB : Mem w.heap.size [] w Z [.own t8 5 none 0 ([] : List Int)] aM aI := aN.addNil t8 5 (by decide); clear aN
  refine ra2 fA (.tuple #[.slice none ([] : List Int).length 0, str (bstr ((d.set (w64 (a - 1)).toNat (l.toNat : Int)).drop (w64 (a - 1)).toNat))]) ?_
  exact ⟨(([] : List Int), bstr ((d.set (w64 (a - 1)).toNat (l.toNat : Int)).drop (w64 (a - 1)).toNat)), none, 0, aM, rfl, fu, fB.keep (List.Sublist.cons_cons _ (List.Sublist.slnil))⟩
 have fC := ae.2 aF; clear ae
 refine sqB M B [] [] [(17, y6 2)] ?_; intro c6 c7; clear M
 refine wp_seq ?_
 refine wp_block ?_
 have c8 : Fr 102 [] [⟨0, [], .slice none 0 0⟩, ⟨1, [], y6 u1⟩, ⟨3, [], .bool u3⟩, ⟨4, [], .bool false⟩, ⟨10, [], .slice none 0 0⟩, ⟨11, [], str []⟩, ⟨12, [], pt c 0⟩, ⟨13, [], i6 65⟩, ⟨17, [], y6 2⟩] c6 := c7.reg; clear c7
 have c9 : Fr 102 [] [⟨0, [], .slice none 0 0⟩, ⟨1, [], y6 u1⟩, ⟨3, [], .bool u3⟩, ⟨4, [], .bool false⟩, ⟨10, [], .slice none 0 0⟩, ⟨11, [], str []⟩, ⟨12, [], pt c 0⟩, ⟨13, [], i6 65⟩, ⟨17, [], y6 2⟩] c6 := c8.reg; clear c8
 obtain ⟨fD, fE, fF, fG⟩ := fC
 refine lp (ι := Int × Int × (List Int)) (fun s => [⟨0, [], .slice none 0 0⟩, ⟨1, [], y6 s.1⟩, ⟨3, [], .bool u3⟩, ⟨4, [], .bool false⟩, ⟨10, [], .slice none 0 0⟩, ⟨11, [], str []⟩, ⟨12, [], pt c 0⟩, ⟨13, [], i6 s.2.1⟩, ⟨17, [], y6 2⟩]) (fun s => [.own t8 123 (sm c) 65 s.2.2]) (fun s => Z) (fun s => fD s.1 s.2.1 s.2.2) (fun s => fE s.1 s.2.1 s.2.2) ⟨u1, 65, (List.replicate 65 (0 : Int))⟩ fF (by exact c9.reg) (by exact B) ?_
 rintro ⟨b, a, d⟩ fH fI fJ da db
 have dc : Fr 102 [] [⟨0, [], .slice none 0 0⟩, ⟨1, [], y6 b⟩, ⟨3, [], .bool u3⟩, ⟨4, [], .bool false⟩, ⟨10, [], .slice none 0 0⟩, ⟨11, [], str []⟩, ⟨12, [], pt c 0⟩, ⟨13, [], i6 a⟩, ⟨17, [], y6 2⟩] fI := da; clear da c9
 have o : Mem w.heap.size [] w Z [.own t8 123 (sm c) 65 d] Z fJ := db; clear db B
 have ai := fG b a d fH
 refine wp_seq ?_
 refine sqB dc o [] [] [(68, .bool (decide (b ≥ 2)))] ?_; intro hn P; clear dc
 refine cd P (t := decide (b ≥ 2)) (by kernel_rfl) (fun aP => ?_) (fun aP => ?_)
 ·
  have fK := ai.1 aP; clear ai
  refine wp_skip ?_
  refine thn ?_
  refine wp_block ?_
  refine sqB P o [] [] [(13, i6 (w64 (a - 1)))] ?_; intro ho dd; clear P
  refine sqB dd o [] [] [(18, y6 (wu64 (b.tdiv 2)))] ?_; intro hq de; clear dd
  refine sqH ?_; intro fL df
  refine bt de o 6 [] [] [(74, i6 (w64 (a - 1))), (79, y6 (wu64 (b - (wu64 ((wu64 (b.tdiv 2)) * 2)))))] ?_; intro hr dg; clear de
  obtain ⟨fM, fN⟩ := fK
  obtain ⟨F, dh⟩ : ∃ q, ([48, 49, 50, 51, 52, 53, 54, 55, 56, 57, 97, 98, 99, 100, 101, 102, 103, 104, 105, 106, 107, 108, 109, 110, 111, 112, 113, 114, 115, 116, 117, 118, 119, 120, 121, 122] : List UInt8)[(wu64 (b - (wu64 ((wu64 (b.tdiv 2)) * 2)))).toNat]? = some q := ⟨_, List.getElem?_eq_getElem (by omega)⟩; have fO := fN F dh
  refine si dg .u64 fM.1 dh ?_; intro hs di; clear dg
  obtain ⟨fP, dj⟩ := fO
  refine ixA (g := c) di (w64 (a - 1)) 65 1 fP.1 (e := 5) (k := .i64) (nog rfl _) rfl (by kernel_rfl) rfl (by kernel_rfl) (by kernel_rfl) (by kernel_rfl) ?_; intro fQ aj; clear di
  refine so aj o 0 (T := t8) (xs := d) (w64 (a - 1)).toNat (F.toNat : Int) (u := y8 (F.toNat : Int)) (nog rfl _) rfl rfl (by kernel_rfl) rfl (by kernel_rfl) rfl (by kernel_rfl) (by first | omega | (simp only [List.length_set] at *; omega)) rfl ?_; intro fR dk; clear o
  have dl : Fr 102 [] [⟨0, [], .slice none 0 0⟩, ⟨1, [], y6 b⟩, ⟨3, [], .bool u3⟩, ⟨4, [], .bool false⟩, ⟨10, [], .slice none 0 0⟩, ⟨11, [], str []⟩, ⟨12, [], pt c 0⟩, ⟨13, [], i6 (w64 (a - 1))⟩, ⟨17, [], y6 2⟩, ⟨18, [], y6 (wu64 (b.tdiv 2))⟩, ⟨68, [], .bool (decide (b ≥ 2))⟩, ⟨74, [], i6 (w64 (a - 1))⟩, ⟨79, [], y6 (wu64 (b - (wu64 ((wu64 (b.tdiv 2)) * 2))))⟩, ⟨80, [], y8 (F.toNat : Int)⟩, ⟨81, [], .pointer (some ⟨c, (w64 (a - 1)).toNat * 1, none⟩)⟩] fQ := by (try simp only [List.length_set] at aj); (try simp only [List.length_set]); exact aj.reg
  clear aj
  have dm : Mem w.heap.size [] w Z [.own t8 123 (sm c) 65 (d.set (w64 (a - 1)).toNat (F.toNat : Int))] Z fR := dk; clear dk
  refine nlH (df _ _ ?_); clear df fL
  refine rgB dl dm [] [] [(1, y6 (wu64 (b.tdiv 2)))] ?_; intro ht fS; clear dl
  refine ibn ?_
  refine rd ?_
  exact ⟨⟨wu64 (b.tdiv 2), w64 (a - 1), d.set (w64 (a - 1)).toNat (F.toNat : Int)⟩, dj.1, dj.2, (fS.reg).anyβ _ (by kernel_rfl), dm.keep (List.Sublist.cons_cons _ (List.Sublist.slnil))⟩
 have fT := ai.2 aP; clear ai
 refine wp_exit ?_
 refine thx ?_
 refine thx ?_
 refine ibx ?_
 refine thn ?_
 refine sqB P o [] [] [(13, i6 (w64 (a - 1)))] ?_; intro hu dn; clear P
 refine rgH ?_; intro fU dp
 refine bt dn o 2 [] [] [(85, i6 (w64 (a - 1))), (86, y6 b)] ?_; intro hv dq; clear dn
 obtain ⟨fV, fW⟩ := fT
 obtain ⟨m, dr⟩ : ∃ q, ([48, 49, 50, 51, 52, 53, 54, 55, 56, 57, 97, 98, 99, 100, 101, 102, 103, 104, 105, 106, 107, 108, 109, 110, 111, 112, 113, 114, 115, 116, 117, 118, 119, 120, 121, 122] : List UInt8)[b.toNat]? = some q := ⟨_, List.getElem?_eq_getElem (by omega)⟩; have fX := fW m dr
 refine si dq .u64 fV.1 dr ?_; intro hw ds; clear dq
 obtain ⟨fY, fZ⟩ := fX
 refine ixA (g := c) ds (w64 (a - 1)) 65 1 fY.1 (e := 5) (k := .i64) (nog rfl _) rfl (by kernel_rfl) rfl (by kernel_rfl) (by kernel_rfl) (by kernel_rfl) ?_; intro f0 ak; clear ds
 refine so ak o 0 (T := t8) (xs := d) (w64 (a - 1)).toNat (m.toNat : Int) (u := y8 (m.toNat : Int)) (nog rfl _) rfl rfl (by kernel_rfl) rfl (by kernel_rfl) rfl (by kernel_rfl) (by first | omega | (simp only [List.length_set] at *; omega)) rfl ?_; intro aQ dt; clear o
 have du : Fr 102 [] [⟨0, [], .slice none 0 0⟩, ⟨1, [], y6 b⟩, ⟨3, [], .bool u3⟩, ⟨4, [], .bool false⟩, ⟨10, [], .slice none 0 0⟩, ⟨11, [], str []⟩, ⟨12, [], pt c 0⟩, ⟨13, [], i6 (w64 (a - 1))⟩, ⟨17, [], y6 2⟩, ⟨68, [], .bool (decide (b ≥ 2))⟩, ⟨85, [], i6 (w64 (a - 1))⟩, ⟨86, [], y6 b⟩, ⟨87, [], y8 (m.toNat : Int)⟩, ⟨88, [], .pointer (some ⟨c, (w64 (a - 1)).toNat * 1, none⟩)⟩] f0 := by (try simp only [List.length_set] at ak); (try simp only [List.length_set]); exact ak.reg
 clear ak
 have aR : Mem w.heap.size [] w Z [.own t8 123 (sm c) 65 (d.set (w64 (a - 1)).toNat (m.toNat : Int))] Z aQ := dt; clear dt
 refine nlH (dp _ _ ?_); clear dp fU
 refine thn ?_
 refine wp_seq ?_
 refine sqB du aR [] [] [(89, .bool u3)] ?_; intro hx aS; clear du
 refine cn aS z ?_
 refine wp_skip ?_
 refine thn ?_
 refine wp_seq ?_
 refine sqB aS aR [] [] [(94, .bool false)] ?_; intro hy aT; clear aS
 refine cdF aT (by kernel_rfl) ?_
 refine wp_skip ?_
 refine thn ?_
 refine sqH ?_; intro f1 dv
 refine s1 aT 99 (i6 (w64 (a - 1))) ?_; intro hz dw; clear aT
 obtain ⟨dx, f2⟩ := fZ
 obtain ⟨aU, dy, dz, f3⟩ := aR.freeze 0 rfl
 replace hg3 := hg3.mono dy
 replace y := Fz.le.trans y dy
 have aV : Mem w.heap.size [] w Z [] aU aQ := dz; clear dz
 refine slA dw (T := t8) (xs := d.set (w64 (a - 1)).toNat (m.toNat : Int)) f3 65 (w64 (a - 1)) dx.2 dx.1 (e := 5) (k := .i64) (nog rfl _) rfl (by kernel_rfl) rfl (by kernel_rfl) (by kernel_rfl) (by kernel_rfl) ?_; intro f4 f5 hA hB f6 aW; clear dw
 refine st aW (str (bstr ((d.set (w64 (a - 1)).toNat (m.toNat : Int)).drop (w64 (a - 1)).toNat))) (nog rfl _) rfl (by kernel_rfl) (bstr_op aW (g := []) (e := 5) (ao := f4) (cap := f5) (xs := ((d.set (w64 (a - 1)).toNat (m.toNat : Int)).drop (w64 (a - 1)).toNat)) rfl (by kernel_rfl) (by kernel_rfl) (by kernel_rfl) (by kernel_rfl) f6 aV.fz rfl) ?_; intro hC dA; clear aW
 refine s1 dA 11 (str (bstr ((d.set (w64 (a - 1)).toNat (m.toNat : Int)).drop (w64 (a - 1)).toNat))) ?_; intro hD f7; clear dA
 refine nlH (dv _ _ ?_); clear dv f1
 refine wp_ret ?_
 have f8 : Mem w.heap.size [] w Z [.own t8 5 none 0 ([] : List Int)] aU aQ := aV.addNil t8 5 (by decide); clear aV
 refine ra2 f7 (.tuple #[.slice none ([] : List Int).length 0, str (bstr ((d.set (w64 (a - 1)).toNat (m.toNat : Int)).drop (w64 (a - 1)).toNat))]) ?_
 exact ⟨(([] : List Int), bstr ((d.set (w64 (a - 1)).toNat (m.toNat : Int)).drop (w64 (a - 1)).toNat)), none, 0, aU, rfl, f2, f8.keep (List.Sublist.cons_cons _ (List.Sublist.slnil))⟩

end Go.Proofs.YtginlmgkimfjmaaDoor
set_option linter.unusedVariables false
set_option linter.unusedSimpArgs false
set_option maxRecDepth 100000
set_option maxHeartbeats 0
namespace Go.Proofs.YtginlmgkimfjmaaDoor
open Go.Sy Go.RowKit
theorem fbits_fun (u1 : Int) (u3 : Bool) (hpre : u3 = false ∧ 0 ≤ u1 ∧ u1 ≤ 9223372036854775807)  (Z : Fz) (w : World) (hg3 : SlR t8 Z (sm 3) 64 deBruijn64) (hZ : Z.on w) : Calls Tryd.prog 68 #[.slice none 0 0, y6 u1, i6 2, .bool u3, .bool false] w fun e w' => ∃ (ao1001 : Option Addr) (cap1002 : Nat) (Z' : Fz), e = .returned (.tuple #[.slice ao1001 (fbitsS u1 u3).1.length cap1002, str (fbitsS u1 u3).2]) ∧ Mem w.heap.size [] w Z [.own t8 5 ao1001 cap1002 (fbitsS u1 u3).1] Z' w' :=
  (fbits_walk u1 u3  Z w hg3 hZ (fbits_ok u1 u3 hpre)).mono fun _ _ ⟨r, h0, h1, h2, he, hk, hm⟩ => by subst hk; exact ⟨h0, h1, h2, he, hm⟩

theorem fint0_walk (u0 : Int)  (Z : Fz) (w : World) (hg3 : SlR t8 Z (sm 3) 64 deBruijn64) (hZ : Z.on w) {K : (List UInt8) → Prop} (hp : fint0_vc u0 K) : Calls Tryd.prog 58 #[i6 u0, i6 2] w fun e w' => ∃ r : (List UInt8), e = .returned (str r) ∧ K r ∧ Below w.heap.size w w' := by
 refine enter0 Tryd.func58 rfl rfl (by kernel_rfl) ?_; intro y d; have a := Mem.start w Z hZ; have f := Fz.le.refl Z
 refine sqB d a [] [] [] ?_; intro z g; clear d
 refine wp_seq ?_
 refine sqB g a [] [] [(11, .bool false)] ?_; intro A c; clear g
 refine cdF c (by kernel_rfl) ?_
 refine wp_skip ?_
 refine thn ?_
 refine sqH ?_; intro o h
 refine bt c a 5 [] [] [(46, y6 (wu64 u0)), (47, i6 2), (49, .bool (decide (u0 < 0)))] ?_; intro B i; clear c
 obtain ⟨p, j⟩ := hp
 refine ck i 68 #[.slice none 0 0, y6 (wu64 u0), i6 2, .bool (decide (u0 < 0)), .bool false] ?_
 refine (fbits_fun (wu64 u0) (decide (u0 < 0)) p _ _ hg3 a.fz).mono ?_; rintro _ q ⟨s, t, u, rfl, hm⟩; refine ⟨_, rfl, ?_⟩; intro C k; have l := a.callZ hm; have m := hm.ext.le; clear hm a i
 replace hg3 := hg3.mono m
 replace f := Fz.le.trans f m
 have b : Mem w.heap.size [] w Z [.own t8 5 s t (fbitsS (wu64 u0) (decide (u0 < 0))).1] u q := l; clear l
 have v := j (b.ownSmall 0 rfl); clear j
 refine bt k b 5 [] [] [(9, str (fbitsS (wu64 u0) (decide (u0 < 0))).2)] ?_; intro D n; clear k
 refine nlH (h _ _ ?_); clear h o
 refine sqB n b [] [] [(4, str (fbitsS (wu64 u0) (decide (u0 < 0))).2)] ?_; intro E x; clear n
 refine wp_ret ?_
 refine ra1 x (str (fbitsS (wu64 u0) (decide (u0 < 0))).2) ?_
 exact ⟨(fbitsS (wu64 u0) (decide (u0 < 0))).2, rfl, v, b.below⟩

end Go.Proofs.YtginlmgkimfjmaaDoor
set_option linter.unusedVariables false
set_option linter.unusedSimpArgs false
set_option maxRecDepth 100000
set_option maxHeartbeats 0
namespace Go.Proofs.YtginlmgkimfjmaaDoor
open Go.Sy Go.RowKit
theorem fint0_fun (u0 : Int) (hpre : 0 ≤ u0 ∧ u0 ≤ 9223372036854775807)  (Z : Fz) (w : World) (hg3 : SlR t8 Z (sm 3) 64 deBruijn64) (hZ : Z.on w) : Calls Tryd.prog 58 #[i6 u0, i6 2] w fun e w' => e = .returned (str (fintS u0)) ∧ Below w.heap.size w w' :=
  (fint0_walk u0  Z w hg3 hZ (fint_ok u0 hpre)).mono fun _ _ ⟨r, he, hk, hb⟩ => ⟨by subst hk; exact he, hb⟩

theorem fint1_walk (u0 : Int)  (Z : Fz) (w : World) (hg3 : SlR t8 Z (sm 3) 64 deBruijn64) (hZ : Z.on w) {K : (List UInt8) → Prop} (hp : fint1_vc u0 K) : Calls Tryd.prog 52 #[i6 u0, i6 2] w fun e w' => ∃ r : (List UInt8), e = .returned (str r) ∧ K r ∧ Below w.heap.size w w' := by
 refine enter0 Tryd.func52 rfl rfl (by kernel_rfl) ?_; intro m b; have a := Mem.start w Z hZ; have n := Fz.le.refl Z
 refine sqB b a [] [] [] ?_; intro o c; clear b
 refine sqH ?_; intro h d
 refine bt c a 2 [] [] [(5, i6 u0), (6, i6 2)] ?_; intro p f; clear c
 obtain ⟨i, j⟩ := hp
 refine fc f a (fint0_fun u0 i _ _ hg3 a.fz) ?_; intro q s g k; clear f a
 refine s1 g 4 (str (fintS u0)) ?_; intro t l; clear g
 refine nlH (d _ _ ?_); clear d h
 refine wp_ret ?_
 refine ra1 l (str (fintS u0)) ?_
 exact ⟨(fintS u0), rfl, j, k.below⟩

theorem rrow_walk (u0 : Int) (u1 : Int)  (Z : Fz) (w : World) (hg3 : SlR t8 Z (sm 3) 64 deBruijn64) (hZ : Z.on w) {K : ((List UInt8) × Bool) → Prop} (hp : rrow_vc u0 u1 K) : Calls Tryd.prog 42 #[i6 u0, i6 u1] w fun e w' => ∃ r : (List UInt8) × Bool, e = .returned (.tuple #[str r.1, .bool r.2]) ∧ K r ∧ Below w.heap.size w w' := by
 refine enter0 Tryd.func42 rfl rfl (by kernel_rfl) ?_; intro a0 m; have a := Mem.start w Z hZ; have ae := Fz.le.refl Z
 refine sqB m a [] [] [] ?_; intro a4 n; clear m
 refine sqB n a [] [] [(6, str [])] ?_; intro a7 o; clear n
 refine wp_seq ?_
 refine sqB o a [] [] [(8, .bool (decide (u0 > 0)))] ?_; intro af d; clear o
 refine cd d (t := decide (u0 > 0)) (by kernel_rfl) (fun j => ?_) (fun j => ?_)
 · -- yes
  have I := hp.1 j; clear hp
  refine rgH ?_; intro J p
  refine s1 d 9 (i6 u0) ?_; intro ag q; clear d
  refine ck q 52 #[i6 u0, i6 2] ?_
  refine (fint1_walk u0 _ _ hg3 a.fz I).mono ?_; rintro _ ah ⟨b, rfl, h, hb⟩; refine ⟨_, rfl, ?_⟩; intro ai s; have c := a.call hb; clear hb a q
  refine s1 s 6 (str b) ?_; intro aj u; clear s
  refine nlH (p _ _ ?_); clear p J
  refine thn ?_
  refine wp_seq ?_
  refine sqB u c [] [] [(14, .bool (decide ((b.length : Int) > u1)))] ?_; intro ak f; clear u
  refine cd f (t := decide ((b.length : Int) > u1)) (by kernel_rfl) (fun k => ?_) (fun k => ?_)
  · -- yes
   have L := h.1 k; clear h
   refine sqB f c [] [] [(4, str []), (5, .bool false)] ?_; intro al M; clear f
   refine wp_ret ?_
   refine thr ?_
   refine ra2 M (.tuple #[str [], .bool false]) ?_
   exact ⟨([], false), rfl, L, c.below⟩
  · -- no
   have N := h.2 k; clear h
   refine wp_skip ?_
   refine thn ?_
   refine sqH ?_; intro O v
   refine bt f c 4 [] [] [(18, i6 (w64 (u1 - (b.length : Int))))] ?_; intro am x; clear f
   obtain ⟨P, Q⟩ := N
   refine fc x c (srep_fun ([48] : List UInt8) (w64 (u1 - (b.length : Int))) P _ _ c.fz) ?_; intro an ao y z; clear x c
   refine s1 y 20 (str b) ?_; intro ap A; clear y
   obtain ⟨R, S⟩ := Q
   refine sa A R ?_; intro aq B; clear A
   refine bt B z 2 [] [] [(4, str ((srepS ([48] : List UInt8) (w64 (u1 - (b.length : Int)))) ++ b)), (5, .bool true)] ?_; intro ar T; clear B
   refine nlH (v _ _ ?_); clear v O
   refine wp_ret ?_
   refine ra2 T (.tuple #[str ((srepS ([48] : List UInt8) (w64 (u1 - (b.length : Int)))) ++ b), .bool true]) ?_
   exact ⟨((srepS ([48] : List UInt8) (w64 (u1 - (b.length : Int)))) ++ b, true), rfl, S, z.below⟩
 · -- no
  have i := hp.2 j; clear hp
  refine wp_skip ?_
  refine thn ?_
  refine wp_seq ?_
  refine sqB d a [] [] [(14, .bool (decide (0 > u1)))] ?_; intro au g; clear d
  refine cd g (t := decide (0 > u1)) (by kernel_rfl) (fun l => ?_) (fun l => ?_)
  · -- yes
   have U := i.1 l; clear i
   refine sqB g a [] [] [(4, str []), (5, .bool false)] ?_; intro av V; clear g
   refine wp_ret ?_
   refine thr ?_
   refine ra2 V (.tuple #[str [], .bool false]) ?_
   exact ⟨([], false), rfl, U, a.below⟩
  · -- no
   have W := i.2 l; clear i
   refine wp_skip ?_
   refine thn ?_
   refine sqH ?_; intro X C
   refine bt g a 4 [] [] [(18, i6 (w64 (u1 - 0)))] ?_; intro aw D; clear g
   obtain ⟨Y, aa⟩ := W
   refine fc D a (srep_fun ([48] : List UInt8) (w64 (u1 - 0)) Y _ _ a.fz) ?_; intro ax ay E F; clear D a
   refine s1 E 20 (str []) ?_; intro az G; clear E
   obtain ⟨ab, ac⟩ := aa
   refine sa G ab ?_; intro aA H; clear G
   refine bt H F 2 [] [] [(4, str ((srepS ([48] : List UInt8) (w64 (u1 - 0))) ++ ([] : List UInt8))), (5, .bool true)] ?_; intro aB ad; clear H
   refine nlH (C _ _ ?_); clear C X
   refine wp_ret ?_
   refine ra2 ad (.tuple #[str ((srepS ([48] : List UInt8) (w64 (u1 - 0))) ++ ([] : List UInt8)), .bool true]) ?_
   exact ⟨((srepS ([48] : List UInt8) (w64 (u1 - 0))) ++ ([] : List UInt8), true), rfl, ac, F.below⟩

end Go.Proofs.YtginlmgkimfjmaaDoor
set_option linter.unusedVariables false
set_option linter.unusedSimpArgs false
namespace Go.Proofs.YtginlmgkimfjmaaDoor
open Go.Sy Go.RowKit
theorem rrow_fun (u0 : Int) (u1 : Int) (hpre : u0 ≤ 9223372036854775807 ∧ u1 ≤ 1000000)  (Z : Fz) (w : World) (hg3 : SlR t8 Z (sm 3) 64 deBruijn64) (hZ : Z.on w) : Calls Tryd.prog 42 #[i6 u0, i6 u1] w fun e w' => e = .returned (.tuple #[str (rrowS u0 u1).1, .bool (rrowS u0 u1).2]) ∧ Below w.heap.size w w' :=
  (rrow_walk u0 u1  Z w hg3 hZ (rrow_ok u0 u1 hpre)).mono fun _ _ ⟨r, he, hk, hb⟩ => ⟨by subst hk; exact he, hb⟩

end Go.Proofs.YtginlmgkimfjmaaDoor
set_option linter.unusedVariables false
set_option linter.unusedSimpArgs false
set_option maxRecDepth 100000
set_option maxHeartbeats 0
namespace Go.Proofs.YtginlmgkimfjmaaDoor
open Go.Sy Go.RowKit
theorem rofb_walk (u0 : List Int) (ao1 : Option Addr) (cap2 : Nat) (Z : Fz) (w : World) (hs3 : SlR t8 Z ao1 cap2 u0) (hg3 : SlR t8 Z (sm 3) 64 deBruijn64) (hZ : Z.on w) {K : (List UInt8) → Prop} (hp : rofb_vc u0 K) : Calls Tryd.prog 43 #[.slice ao1 u0.length cap2] w fun e w' => ∃ r : (List UInt8), e = .returned (str r) ∧ K r ∧ Below w.heap.size w w' := by
 refine enter0 Tryd.func43 rfl rfl (by kernel_rfl) ?_; intro a0 m; have g := Mem.start w Z hZ; have ay := Fz.le.refl Z
 have U := hp (hs3.small); clear hp
 refine sqB m g [] [] [] ?_; intro a6 n; clear m
 refine sqB n g [] [] [(3, str [])] ?_; intro a9 o; clear n
 refine wp_seq ?_
 refine sqB o g [] [] [(7, .slice ao1 u0.length cap2), (8, i6 (u0.length : Int)), (9, i6 0)] ?_; intro p q; clear o
 refine wp_block ?_
 have u : Fr 26 [] [⟨3, [], str []⟩, ⟨7, [], .slice ao1 u0.length cap2⟩, ⟨8, [], i6 (u0.length : Int)⟩, ⟨9, [], i6 0⟩] p := q.region (by kernel_rfl) (by kernel_rfl); clear q
 have v : Fr 26 [] [⟨3, [], str []⟩, ⟨7, [], .slice ao1 u0.length cap2⟩, ⟨8, [], i6 (u0.length : Int)⟩, ⟨9, [], i6 0⟩] p := u.region (by kernel_rfl) (by kernel_rfl); clear u
 obtain ⟨V, W, X, Y⟩ := U
 refine lp (ι := (List UInt8) × Int) (fun s => [⟨3, [], str s.1⟩, ⟨7, [], .slice ao1 u0.length cap2⟩, ⟨8, [], i6 (u0.length : Int)⟩, ⟨9, [], i6 s.2⟩]) (fun s => []) (fun s => Z) (fun s => V s.1 s.2) (fun s => W s.1 s.2) ⟨[], 0⟩ X (by exact v.region (by kernel_rfl) (by kernel_rfl)) (by exact g) ?_
 rintro ⟨a, d⟩ aa ab ac x y
 have z : Fr 26 [] [⟨3, [], str a⟩, ⟨7, [], .slice ao1 u0.length cap2⟩, ⟨8, [], i6 (u0.length : Int)⟩, ⟨9, [], i6 d⟩] ab := x; clear x v
 have b : Mem w.heap.size [] w Z [] Z ac := y; clear y g
 have i := Y a d aa
 refine sqB z b [] [] [(10, .bool (decide (d < (u0.length : Int))))] ?_; intro az h; clear z
 refine wp_seq ?_
 refine cd h (t := decide (d < (u0.length : Int))) (by kernel_rfl) (fun l => ?_) (fun l => ?_)
 · -- yes
  have ad := i.1 l; clear i
  refine wp_skip ?_
  refine thn ?_
  refine wp_seq ?_
  refine wp_block ?_
  refine sqH ?_; intro ae A
  obtain ⟨af, B⟩ := ad
  refine ix h (T := t8) (xs := u0) hs3 d af (k := .i64) (e := 5) (bytes := 1) (nog rfl _) rfl (by kernel_rfl) rfl (by kernel_rfl) (by kernel_rfl) (by kernel_rfl) ?_; intro aA aB ag f aC ah ai aj C; clear h
  have ak := B f ah; clear B
  obtain rfl : ag = ([y8 f] : List Value) := aj
  refine z1 C b 12 ai 0 (y8 f) rfl ?_; intro aD D; clear C
  refine s1 D 5 (y8 f) ?_; intro aE E; clear D
  refine nlH (A _ _ ?_); clear A ae
  refine sqH ?_; intro al F
  refine bt E b 2 [] [] [(14, i6 (w64 f))] ?_; intro aF G; clear E
  refine ck G 52 #[i6 (w64 f), i6 2] ?_
  refine (fint1_walk (w64 f) _ _ hg3 b.fz ak).mono ?_; rintro _ aG ⟨c, rfl, am, hb⟩; refine ⟨_, rfl, ?_⟩; intro aH H; have j := b.call hb; clear hb b G
  refine s1 H 6 (str c) ?_; intro aI I; clear H
  refine nlH (F _ _ ?_); clear F al
  refine rgH ?_; intro an J
  refine bt I j 4 [] [] [(16, str a), (19, i6 (w64 (8 - (c.length : Int))))] ?_; intro aJ L; clear I
  obtain ⟨ao, ap⟩ := am
  refine fc L j (srep_fun ([48] : List UInt8) (w64 (8 - (c.length : Int))) ao _ _ j.fz) ?_; intro aK aL M N; clear L j
  refine s1 M 21 (str c) ?_; intro aM O; clear M
  obtain ⟨aq, ar⟩ := ap
  refine sa O aq ?_; intro aN P; clear O
  obtain ⟨au, Q⟩ := ar
  refine sa P au ?_; intro aO R; clear P
  refine s1 R 3 (str (a ++ ((srepS ([48] : List UInt8) (w64 (8 - (c.length : Int)))) ++ c))) ?_; intro aP S; clear R
  refine nlH (J _ _ ?_); clear J an
  refine ibn ?_
  refine thn ?_
  refine rgB S N [] [] [(9, i6 (w64 (d + 1)))] ?_; intro aQ av; clear S
  refine rd ?_
  exact ⟨⟨a ++ ((srepS ([48] : List UInt8) (w64 (8 - (c.length : Int)))) ++ c), w64 (d + 1)⟩, Q.1, Q.2, (av.region (by kernel_rfl) (by kernel_rfl)).anyβ _ (by kernel_rfl), N.keep (List.Sublist.slnil)⟩
 · -- no
  have aw := i.2 l; clear i
  refine wp_exit ?_
  refine thx ?_
  refine thx ?_
  refine ibx ?_
  refine thn ?_
  refine sqB h b [] [] [(2, str a)] ?_; intro aR ax; clear h
  refine wp_ret ?_
  refine ra1 ax (str a) ?_
  exact ⟨a, rfl, aw, b.below⟩

theorem rname_walk (u0 : Frame) (ao1 : Option Addr) (cap2 : Nat) (Z : Fz) (w : World) (hs3 : SlR t8 Z ao1 cap2 u0.Data) (hg3 : SlR t8 Z (sm 3) 64 deBruijn64) (hZ : Z.on w) {K : (List UInt8) → Prop} (hp : rname_vc u0 K) : Calls Tryd.prog 39 #[.agg #[i6 u0.ID, .bool u0.Long, .bool u0.Fast, .bool u0.Remote, i6 u0.Size, .slice ao1 u0.Data.length cap2]] w fun e w' => ∃ r : (List UInt8), e = .returned (str r) ∧ K r ∧ Below w.heap.size w w' := by
 refine enter0 Tryd.func39 rfl rfl (by kernel_rfl) ?_; intro a0 E; have F := Mem.start w Z hZ; have bv := Fz.le.refl Z
 have f := hp (hs3.small); clear hp
 refine sqH ?_; intro ax G
 refine nw E F pb [i6 u0.ID, .bool u0.Long, .bool u0.Fast, .bool u0.Remote, i6 u0.Size, .slice ao1 u0.Data.length cap2] 69 ?_; intro b6 a7 bw H a; clear E F
 refine s1 H 2 (str []) ?_; intro bx I; clear H
 refine nlH (G _ _ ?_); clear G ax
 refine sqB I a [] [] [(3, str ([48] : List UInt8))] ?_; intro bz J; clear I
 refine wp_seq ?_
 refine sqB J a [0] [] [(9, .bool u0.Remote)] ?_; intro bA b; clear J
 refine cd b (t := u0.Remote) (by kernel_rfl) (fun j => ?_) (fun j => ?_)
 · -- yes
  have h := f.1 j; clear f
  refine rgB b a [] [] [(3, str ([49] : List UInt8))] ?_; intro bB L; clear b
  refine thn ?_
  refine wp_seq ?_
  refine sqB L a [0] [] [(11, .bool u0.Long)] ?_; intro bC c; clear L
  refine cd c (t := u0.Long) (by kernel_rfl) (fun l => ?_) (fun l => ?_)
  · -- yes
   have ay := h.1 l; clear h
   refine sqH ?_; intro az M
   refine bt c a 2 [0] [] [(14, i6 u0.ID)] ?_; intro bD N; clear c
   obtain ⟨aA, aB⟩ := ay
   refine fc N a (rrow_fun u0.ID 29 aA _ _ hg3 a.fz) ?_; intro bE bF O m; clear N a
   refine bt O m 5 [] [] [(4, str (rrowS u0.ID 29).1)] ?_; intro aC P; clear O
   refine nlH (M _ _ ?_); clear M az
   have Q : Fr 36 [] [⟨3, [], str ([49] : List UInt8)⟩, ⟨4, [], str (rrowS u0.ID 29).1⟩] aC := P.region (by kernel_rfl) (by kernel_rfl); clear P
   refine sqQH mixed (by kernel_rfl) m ?_; intro aD R
   refine q1 Q 18 (str (rrowS u0.ID 29).1) ?_; intro bG n; clear Q
   obtain ⟨aE, aF⟩ := aB
   refine qst n (str ((rrowS u0.ID 29).1.take (11 : Int).toNat)) (nog rfl _) rfl (by kernel_rfl) (fun v59 hC => strslH_run n (g := []) (k := .i64) rfl (by kernel_rfl) (by kernel_rfl) (by kernel_rfl) aE rfl) ?_; intro bH o; clear n
   obtain ⟨aG, aH⟩ := aF
   refine qst o (str (((rrowS u0.ID 29).1.take (11 : Int).toNat) ++ ([49, 49] : List UInt8))) (nog rfl _) rfl (by kernel_rfl) (fun v64 hC => stradd_run o (g := []) rfl (by kernel_rfl) (by kernel_rfl) aG rfl) ?_; intro bI S; clear o
   refine q1 S 21 (str (rrowS u0.ID 29).1) ?_; intro bJ p; clear S
   obtain ⟨aI, aJ⟩ := aH
   refine qst p (str ((rrowS u0.ID 29).1.drop (11 : Int).toNat)) (nog rfl _) rfl (by kernel_rfl) (fun v72 hC => strslL_run p (g := []) (k := .i64) rfl (by kernel_rfl) (by kernel_rfl) (by kernel_rfl) aI rfl) ?_; intro bK q; clear p
   obtain ⟨aK, aL⟩ := aJ
   refine qst q (str ((((rrowS u0.ID 29).1.take (11 : Int).toNat) ++ ([49, 49] : List UInt8)) ++ ((rrowS u0.ID 29).1.drop (11 : Int).toNat))) (nog rfl _) rfl (by kernel_rfl) (fun v77 hC => stradd_run q (g := []) rfl (by kernel_rfl) (by kernel_rfl) aK rfl) ?_; intro bL T; clear q
   refine q1 T 24 (str ([49] : List UInt8)) ?_; intro bM s; clear T
   obtain ⟨aM, aN⟩ := aL
   refine qst s (str (((((rrowS u0.ID 29).1.take (11 : Int).toNat) ++ ([49, 49] : List UInt8)) ++ ((rrowS u0.ID 29).1.drop (11 : Int).toNat)) ++ ([49] : List UInt8))) (nog rfl _) rfl (by kernel_rfl) (fun v85 hC => stradd_run s (g := []) rfl (by kernel_rfl) (by kernel_rfl) aM rfl) ?_; intro bN U; clear s
   refine q1 U 2 (str (((((rrowS u0.ID 29).1.take (11 : Int).toNat) ++ ([49, 49] : List UInt8)) ++ ((rrowS u0.ID 29).1.drop (11 : Int).toNat)) ++ ([49] : List UInt8))) ?_; intro bO aO; clear U
   refine qnl (R _ ?_); clear R aD; intro bP aP; clear m
   refine wp_ret ?_
   refine thr ?_
   refine ra1 aO (str (((((rrowS u0.ID 29).1.take (11 : Int).toNat) ++ ([49, 49] : List UInt8)) ++ ((rrowS u0.ID 29).1.drop (11 : Int).toNat)) ++ ([49] : List UInt8))) ?_
   exact ⟨((((rrowS u0.ID 29).1.take (11 : Int).toNat) ++ ([49, 49] : List UInt8)) ++ ((rrowS u0.ID 29).1.drop (11 : Int).toNat)) ++ ([49] : List UInt8), rfl, aN, aP.below⟩
  · -- no
   have aQ := h.2 l; clear h
   refine wp_skip ?_
   refine thn ?_
   refine sqH ?_; intro aR V
   refine bt c a 2 [0] [] [(28, i6 u0.ID)] ?_; intro bQ W; clear c
   obtain ⟨aS, aT⟩ := aQ
   refine fc W a (rrow_fun u0.ID 11 aS _ _ hg3 a.fz) ?_; intro bR bS X u; clear W a
   refine bt X u 5 [] [] [(6, str (rrowS u0.ID 11).1)] ?_; intro bT Y; clear X
   refine nlH (V _ _ ?_); clear V aR
   refine sqH ?_; intro aU aa
   refine bt Y u 2 [] [] [(32, str (rrowS u0.ID 11).1), (33, str ([49] : List UInt8))] ?_; intro bU ab; clear Y
   obtain ⟨aV, aW⟩ := aT
   refine sa ab aV ?_; intro bV ac; clear ab
   obtain ⟨aX, aY⟩ := aW
   refine sa ac aX ?_; intro bW ad; clear ac
   refine s1 ad 2 (str (((rrowS u0.ID 11).1 ++ ([49] : List UInt8)) ++ ([48] : List UInt8))) ?_; intro bX aZ; clear ad
   refine nlH (aa _ _ ?_); clear aa aU
   refine wp_ret ?_
   refine ra1 aZ (str (((rrowS u0.ID 11).1 ++ ([49] : List UInt8)) ++ ([48] : List UInt8))) ?_
   exact ⟨((rrowS u0.ID 11).1 ++ ([49] : List UInt8)) ++ ([48] : List UInt8), rfl, aY, u.below⟩
 · -- no
  have i := f.2 j; clear f
  refine wp_skip ?_
  refine thn ?_
  refine wp_seq ?_
  refine sqB b a [0] [] [(11, .bool u0.Long)] ?_; intro bY d; clear b
  refine cd d (t := u0.Long) (by kernel_rfl) (fun v => ?_) (fun v => ?_)
  · -- yes
   have a1 := i.1 v; clear i
   refine sqH ?_; intro a2 ae
   refine bt d a 2 [0] [] [(14, i6 u0.ID)] ?_; intro bZ af; clear d
   obtain ⟨a3, a4⟩ := a1
   refine fc af a (rrow_fun u0.ID 29 a3 _ _ hg3 a.fz) ?_; intro b0 b1 ag x; clear af a
   refine bt ag x 5 [] [] [(4, str (rrowS u0.ID 29).1)] ?_; intro a5 ah; clear ag
   refine nlH (ae _ _ ?_); clear ae a2
   have ai : Fr 36 [] [⟨3, [], str ([48] : List UInt8)⟩, ⟨4, [], str (rrowS u0.ID 29).1⟩] a5 := ah.region (by kernel_rfl) (by kernel_rfl); clear ah
   refine sqQH mixed (by kernel_rfl) x ?_; intro a6 aj
   refine q1 ai 18 (str (rrowS u0.ID 29).1) ?_; intro b2 y; clear ai
   obtain ⟨a8, a9⟩ := a4
   refine qst y (str ((rrowS u0.ID 29).1.take (11 : Int).toNat)) (nog rfl _) rfl (by kernel_rfl) (fun v166 hC => strslH_run y (g := []) (k := .i64) rfl (by kernel_rfl) (by kernel_rfl) (by kernel_rfl) a8 rfl) ?_; intro b3 z; clear y
   obtain ⟨ba, bb⟩ := a9
   refine qst z (str (((rrowS u0.ID 29).1.take (11 : Int).toNat) ++ ([49, 49] : List UInt8))) (nog rfl _) rfl (by kernel_rfl) (fun v171 hC => stradd_run z (g := []) rfl (by kernel_rfl) (by kernel_rfl) ba rfl) ?_; intro b4 ak; clear z
   refine q1 ak 21 (str (rrowS u0.ID 29).1) ?_; intro b5 A; clear ak
   obtain ⟨bc, bd⟩ := bb
   refine qst A (str ((rrowS u0.ID 29).1.drop (11 : Int).toNat)) (nog rfl _) rfl (by kernel_rfl) (fun v179 hC => strslL_run A (g := []) (k := .i64) rfl (by kernel_rfl) (by kernel_rfl) (by kernel_rfl) bc rfl) ?_; intro b7 B; clear A
   obtain ⟨be, bf⟩ := bd
   refine qst B (str ((((rrowS u0.ID 29).1.take (11 : Int).toNat) ++ ([49, 49] : List UInt8)) ++ ((rrowS u0.ID 29).1.drop (11 : Int).toNat))) (nog rfl _) rfl (by kernel_rfl) (fun v184 hC => stradd_run B (g := []) rfl (by kernel_rfl) (by kernel_rfl) be rfl) ?_; intro b8 al; clear B
   refine q1 al 24 (str ([48] : List UInt8)) ?_; intro b9 C; clear al
   obtain ⟨bg, bh⟩ := bf
   refine qst C (str (((((rrowS u0.ID 29).1.take (11 : Int).toNat) ++ ([49, 49] : List UInt8)) ++ ((rrowS u0.ID 29).1.drop (11 : Int).toNat)) ++ ([48] : List UInt8))) (nog rfl _) rfl (by kernel_rfl) (fun v192 hC => stradd_run C (g := []) rfl (by kernel_rfl) (by kernel_rfl) bg rfl) ?_; intro ca am; clear C
   refine q1 am 2 (str (((((rrowS u0.ID 29).1.take (11 : Int).toNat) ++ ([49, 49] : List UInt8)) ++ ((rrowS u0.ID 29).1.drop (11 : Int).toNat)) ++ ([48] : List UInt8))) ?_; intro cb bi; clear am
   refine qnl (aj _ ?_); clear aj a6; intro cc bj; clear x
   refine wp_ret ?_
   refine thr ?_
   refine ra1 bi (str (((((rrowS u0.ID 29).1.take (11 : Int).toNat) ++ ([49, 49] : List UInt8)) ++ ((rrowS u0.ID 29).1.drop (11 : Int).toNat)) ++ ([48] : List UInt8))) ?_
   exact ⟨((((rrowS u0.ID 29).1.take (11 : Int).toNat) ++ ([49, 49] : List UInt8)) ++ ((rrowS u0.ID 29).1.drop (11 : Int).toNat)) ++ ([48] : List UInt8), rfl, bh, bj.below⟩
  · -- no
   have bk := i.2 v; clear i
   refine wp_skip ?_
   refine thn ?_
   refine sqH ?_; intro bl an
   refine bt d a 2 [0] [] [(28, i6 u0.ID)] ?_; intro ce ao; clear d
   obtain ⟨bm, bn⟩ := bk
   refine fc ao a (rrow_fun u0.ID 11 bm _ _ hg3 a.fz) ?_; intro cf cg ap D; clear ao a
   refine bt ap D 5 [] [] [(6, str (rrowS u0.ID 11).1)] ?_; intro ch aq; clear ap
   refine nlH (an _ _ ?_); clear an bl
   refine sqH ?_; intro bo ar
   refine bt aq D 2 [] [] [(32, str (rrowS u0.ID 11).1), (33, str ([48] : List UInt8))] ?_; intro ci au; clear aq
   obtain ⟨bp, bq⟩ := bn
   refine sa au bp ?_; intro cj av; clear au
   obtain ⟨br, bs⟩ := bq
   refine sa av br ?_; intro ck aw; clear av
   refine s1 aw 2 (str (((rrowS u0.ID 11).1 ++ ([48] : List UInt8)) ++ ([48] : List UInt8))) ?_; intro cl bu; clear aw
   refine nlH (ar _ _ ?_); clear ar bo
   refine wp_ret ?_
   refine ra1 bu (str (((rrowS u0.ID 11).1 ++ ([48] : List UInt8)) ++ ([48] : List UInt8))) ?_
   exact ⟨((rrowS u0.ID 11).1 ++ ([48] : List UInt8)) ++ ([48] : List UInt8), rfl, bs, D.below⟩

theorem rsizes_walk   (Z : Fz) (w : World)  (hZ : Z.on w) {K : (List Int) → Prop} (hp : rsizes_vc  K) : Calls Tryd.prog 41 #[] w fun e w' => ∃ (r : (List Int)) (ao1001 : Option Addr) (cap1002 : Nat) (Z' : Fz), e = .returned (.slice ao1001 r.length cap1002) ∧ K r ∧ Mem w.heap.size [] w Z [.own t6 3 ao1001 cap1002 r] Z' w' := by
 refine enter0 Tryd.func41 rfl rfl (by kernel_rfl) ?_; intro n d; have c := Mem.start w Z hZ; have o := Fz.le.refl Z
 refine sqB d c [] [] [] ?_; intro p f; clear d
 refine sqH ?_; intro j g
 refine nw f c (fun b => .slice (sm b) 16 16) [i6 0, i6 1, i6 2, i6 3, i6 4, i6 5, i6 6, i6 7, i6 8, i6 12, i6 16, i6 20, i6 24, i6 32, i6 48, i6 64] 3 ?_; intro a q k h i; clear f c
 refine s1 h 0 (.slice (sm a) 16 16) ?_; intro s l; clear h
 refine nlH (g _ _ ?_); clear g j
 refine wp_ret ?_
 have m : Mem w.heap.size [] w Z [.own t6 3 (sm a) 16 ([0, 1, 2, 3, 4, 5, 6, 7, 8, 12, 16, 20, 24, 32, 48, 64] : List Int)] Z k := i.rowOwn (T := t6) (xs := ([0, 1, 2, 3, 4, 5, 6, 7, 8, 12, 16, 20, 24, 32, 48, 64] : List Int)) 0 rfl (by decide) (by show 16 ≤ lim; decide) ((RepAll.one (T := t6) (x := 0) rfl).append ((RepAll.one (T := t6) (x := 1) rfl).append ((RepAll.one (T := t6) (x := 2) rfl).append ((RepAll.one (T := t6) (x := 3) rfl).append ((RepAll.one (T := t6) (x := 4) rfl).append ((RepAll.one (T := t6) (x := 5) rfl).append ((RepAll.one (T := t6) (x := 6) rfl).append ((RepAll.one (T := t6) (x := 7) rfl).append ((RepAll.one (T := t6) (x := 8) rfl).append ((RepAll.one (T := t6) (x := 12) rfl).append ((RepAll.one (T := t6) (x := 16) rfl).append ((RepAll.one (T := t6) (x := 20) rfl).append ((RepAll.one (T := t6) (x := 24) rfl).append ((RepAll.one (T := t6) (x := 32) rfl).append ((RepAll.one (T := t6) (x := 48) rfl).append (RepAll.one (T := t6) (x := 64) rfl)))))))))))))))); clear i
 refine ra1 l (.slice (sm a) ([0, 1, 2, 3, 4, 5, 6, 7, 8, 12, 16, 20, 24, 32, 48, 64] : List Int).length 16) ?_
 exact ⟨([0, 1, 2, 3, 4, 5, 6, 7, 8, 12, 16, 20, 24, 32, 48, 64] : List Int), (sm a), 16, Z, rfl, hp, m.keep (List.Sublist.cons_cons _ (List.Sublist.slnil))⟩
theorem rsizes_fun   (Z : Fz) (w : World)  (hZ : Z.on w) : Calls Tryd.prog 41 #[] w fun e w' => ∃ (ao1001 : Option Addr) (cap1002 : Nat) (Z' : Fz), e = .returned (.slice ao1001 rsizes.length cap1002) ∧ Mem w.heap.size [] w Z [.own t6 3 ao1001 cap1002 rsizes] Z' w' :=
  (rsizes_walk   Z w  hZ (rsizes_ok )).mono fun _ _ ⟨r, h0, h1, h2, he, hk, hm⟩ => by subst hk; exact ⟨h0, h1, h2, he, hm⟩

end Go.Proofs.YtginlmgkimfjmaaDoor
set_option linter.unusedVariables false
set_option linter.unusedSimpArgs false
set_option maxRecDepth 100000
set_option maxHeartbeats 0
namespace Go.Proofs.YtginlmgkimfjmaaDoor
open Go.Sy Go.RowKit
abbrev e69Rb (X : Frame) (A0 : Option Addr) (C0 : Nat) : List Value := [i6 X.ID, .bool X.Long, .bool X.Fast, .bool X.Remote, i6 X.Size, .slice A0 X.Data.length C0]
theorem rofb_fun (u0 : List Int) (hpre : (∀ x ∈ u0, 0 ≤ x ∧ x ≤ 255) ∧ u0.length ≤ 1000) (ao1 : Option Addr) (cap2 : Nat) (Z : Fz) (w : World) (hs3 : SlR t8 Z ao1 cap2 u0) (hg3 : SlR t8 Z (sm 3) 64 deBruijn64) (hZ : Z.on w) : Calls Tryd.prog 43 #[.slice ao1 u0.length cap2] w fun e w' => e = .returned (str (ofb u0)) ∧ Below w.heap.size w w' :=
  (rofb_walk u0 ao1 cap2 Z w hs3 hg3 hZ (rofb_ok u0 hpre)).mono fun _ _ ⟨r, he, hk, hb⟩ => ⟨by subst hk; exact he, hb⟩

theorem rname_fun (u0 : Frame) (hpre : fcheckfr u0 = 0) (ao1 : Option Addr) (cap2 : Nat) (Z : Fz) (w : World) (hs3 : SlR t8 Z ao1 cap2 u0.Data) (hg3 : SlR t8 Z (sm 3) 64 deBruijn64) (hZ : Z.on w) : Calls Tryd.prog 39 #[.agg #[i6 u0.ID, .bool u0.Long, .bool u0.Fast, .bool u0.Remote, i6 u0.Size, .slice ao1 u0.Data.length cap2]] w fun e w' => e = .returned (str (fnameS u0)) ∧ Below w.heap.size w w' :=
  (rname_walk u0 ao1 cap2 Z w hs3 hg3 hZ (rname_ok u0 hpre)).mono fun _ _ ⟨r, he, hk, hb⟩ => ⟨by subst hk; exact he, hb⟩

theorem rhead_walk (u0 : Frame) (ao1 : Option Addr) (cap2 : Nat) (Z : Fz) (w : World) (hs3 : SlR t8 Z ao1 cap2 u0.Data) (hg3 : SlR t8 Z (sm 3) 64 deBruijn64) (hZ : Z.on w) {K : (List UInt8) → Prop} (hp : rhead_vc u0 K) : Calls Tryd.prog 31 #[.agg #[i6 u0.ID, .bool u0.Long, .bool u0.Fast, .bool u0.Remote, i6 u0.Size, .slice ao1 u0.Data.length cap2]] w fun e w' => ∃ r : (List UInt8), e = .returned (str r) ∧ K r ∧ Below w.heap.size w w' := by
 refine enter0 Tryd.func31 rfl rfl (by kernel_rfl) ?_; intro a0 W; have X := Mem.start w Z hZ; have b := Fz.le.refl Z
 have ci := hp (hs3.small); clear hp
 refine sqH ?_; intro cj Y
 refine nw W X pb (e69Rb u0 ao1 cap2) 69 ?_; intro c a7 eb aa u; clear W X
 refine s1 aa 2 (str []) ?_; intro ec ab; clear aa
 refine nlH (Y _ _ ?_); clear Y cj
 refine sqH ?_; intro cl ac
 refine l2 ab u 7 0 0 6 (e69Rb u0 ao1 cap2) rfl rfl ?_; intro ed ad; clear ab
 obtain ⟨cm, cn⟩ := ci
 refine fc ad u (rname_fun u0 cm ao1 cap2 _ _ hs3 hg3 u.fz) ?_; intro ee ef ae a; clear ad u
 obtain ⟨co, v⟩ := cn
 refine sa ae co ?_; intro eg af; clear ae
 refine s1 af 3 (str (([48] : List UInt8) ++ (fnameS u0))) ?_; intro eh ag; clear af
 refine nlH (ac _ _ ?_); clear ac cl
 refine wp_seq ?_
 refine sqB ag a [0] [] [(11, .bool u0.Fast)] ?_; intro ei n; clear ag
 refine cd n (t := u0.Fast) (by kernel_rfl) (fun L => ?_) (fun L => ?_)
 · -- yes
  have cp := v.1 L; clear v
  refine rgH ?_; intro cq ah
  refine s1 n 12 (str (([48] : List UInt8) ++ (fnameS u0))) ?_; intro ej ai; clear n
  obtain ⟨cr, x⟩ := cp
  refine sa ai cr ?_; intro ek aj; clear ai
  refine s1 aj 3 (str ((([48] : List UInt8) ++ (fnameS u0)) ++ ([49, 48, 49, 48] : List UInt8))) ?_; intro el ak; clear aj
  refine nlH (ah _ _ ?_); clear ah cq
  refine thn ?_
  refine sqB ak a [0] [] [(4, i6 u0.Size)] ?_; intro em al; clear ak
  refine wp_seq ?_
  refine sqB al a [0] [] [(24, .bool (!u0.Remote))] ?_; intro cs o; clear al
  refine cd o (t := !u0.Remote) (by kernel_rfl) (fun M => ?_) (fun M => ?_)
  · -- yes
   have ct := x.1 M; clear x
   have am : Fr 42 [] [⟨1, [], pt c 0⟩, ⟨3, [], str ((([48] : List UInt8) ++ (fnameS u0)) ++ ([49, 48, 49, 48] : List UInt8))⟩] cs := o.region (by kernel_rfl) (by kernel_rfl); clear o
   refine rgS mixed a [(1, true), (2, true), (3, true), (0, false), (4, false), (5, true)] [] [0] [.row c (e69Rb u0 ao1 cap2) 69] ?_
   intro cu an en N; clear a
   have d := Fz.le.refl Z
   refine cS am 3 [0] [] [(28, i6 (u0.Data.length : Int))] ?_; intro eo ao; clear am
   refine eS rfl ?_; intro cv ap
   refine ck ao 41 #[] ?_
   refine (rsizes_fun  _ _ N.fz).mono ?_; rintro _ aq ⟨ar, au, cw, rfl, hm⟩; refine ⟨_, rfl, ?_⟩; intro ep av; have aw := N.callZ hm; have y := hm.ext.le; clear hm N ao
   replace hs3 := hs3.mono y
   replace hg3 := hg3.mono y
   replace d := d.mono y
   replace b := Fz.le.trans b y
   have ax : Mem w.heap.size [] w Z [.own t6 3 ar au rsizes, .row c (e69Rb u0 ao1 cap2) 69] cw aq := aw; clear aw
   refine nl (qnI (ap _ _ (ax.cst d [1]) ?_)); clear ap cv
   refine eS rfl ?_; intro cx ay
   obtain ⟨cy, z, az, cz⟩ := ax.freeze 0 rfl
   replace hs3 := hs3.mono z
   replace hg3 := hg3.mono z
   replace d := d.mono z
   replace b := Fz.le.trans b z
   have O : Mem w.heap.size [] w Z [.row c (e69Rb u0 ao1 cap2) 69] cy aq := az; clear az
   refine fc av O (sindex_fun rsizes (u0.Data.length : Int) ar au _ _ cz O.fz) ?_; intro eq er aA A; clear av O
   refine nl (qnI (ay _ _ (A.cst d [0]) ?_)); clear ay cx
   refine cS aA 1 [] [] [(4, i6 (sindexS rsizes (u0.Data.length : Int)))] ?_; intro es aB; clear aA
   refine nS (an _ _ ?_); clear an cu
   refine thn ?_
   refine sqH ?_; intro cA aC
   refine s1 aB 31 (i6 (sindexS rsizes (u0.Data.length : Int))) ?_; intro et aD; clear aB
   obtain ⟨cB, cC⟩ := ct
   refine fc aD A (rrow_fun (sindexS rsizes (u0.Data.length : Int)) 4 cB _ _ hg3 A.fz) ?_; intro eu ev aE f; clear aD A
   refine bt aE f 5 [] [] [(5, str (rrowS (sindexS rsizes (u0.Data.length : Int)) 4).1)] ?_; intro ew aF; clear aE
   refine nlH (aC _ _ ?_); clear aC cA
   refine sqH ?_; intro cD aG
   refine bt aF f 2 [] [] [(35, str ((([48] : List UInt8) ++ (fnameS u0)) ++ ([49, 48, 49, 48] : List UInt8))), (36, str (rrowS (sindexS rsizes (u0.Data.length : Int)) 4).1)] ?_; intro ex aH; clear aF
   obtain ⟨cE, cF⟩ := cC
   refine sa aH cE ?_; intro ey aI; clear aH
   refine bt aI f 2 [0] [] [(39, .slice ao1 u0.Data.length cap2)] ?_; intro ez aJ; clear aI
   obtain ⟨cG, cH⟩ := cF
   refine fc aJ f (rofb_fun u0.Data cG ao1 cap2 _ _ hs3 hg3 f.fz) ?_; intro eA eB aK cI; clear aJ f
   obtain ⟨cJ, cK⟩ := cH
   refine sa aK cJ ?_; intro eC aL; clear aK
   refine s1 aL 2 (str ((((([48] : List UInt8) ++ (fnameS u0)) ++ ([49, 48, 49, 48] : List UInt8)) ++ (rrowS (sindexS rsizes (u0.Data.length : Int)) 4).1) ++ (ofb u0.Data))) ?_; intro eD cL; clear aL
   refine nlH (aG _ _ ?_); clear aG cD
   refine wp_ret ?_
   refine ra1 cL (str ((((([48] : List UInt8) ++ (fnameS u0)) ++ ([49, 48, 49, 48] : List UInt8)) ++ (rrowS (sindexS rsizes (u0.Data.length : Int)) 4).1) ++ (ofb u0.Data))) ?_
   exact ⟨(((([48] : List UInt8) ++ (fnameS u0)) ++ ([49, 48, 49, 48] : List UInt8)) ++ (rrowS (sindexS rsizes (u0.Data.length : Int)) 4).1) ++ (ofb u0.Data), rfl, cK, cI.below⟩
  · -- no
   have cM := x.2 M; clear x
   refine wp_skip ?_
   refine thn ?_
   refine sqH ?_; intro cN aM
   refine s1 o 31 (i6 u0.Size) ?_; intro eE aN; clear o
   obtain ⟨cO, cP⟩ := cM
   refine fc aN a (rrow_fun u0.Size 4 cO _ _ hg3 a.fz) ?_; intro eF eG aO g; clear aN a
   refine bt aO g 5 [] [] [(5, str (rrowS u0.Size 4).1)] ?_; intro eH aP; clear aO
   refine nlH (aM _ _ ?_); clear aM cN
   refine sqH ?_; intro cQ aQ
   refine bt aP g 2 [] [] [(35, str ((([48] : List UInt8) ++ (fnameS u0)) ++ ([49, 48, 49, 48] : List UInt8))), (36, str (rrowS u0.Size 4).1)] ?_; intro eI aR; clear aP
   obtain ⟨cR, cT⟩ := cP
   refine sa aR cR ?_; intro eJ aS; clear aR
   refine bt aS g 2 [0] [] [(39, .slice ao1 u0.Data.length cap2)] ?_; intro eK aT; clear aS
   obtain ⟨cU, cV⟩ := cT
   refine fc aT g (rofb_fun u0.Data cU ao1 cap2 _ _ hs3 hg3 g.fz) ?_; intro eL eM aU cW; clear aT g
   obtain ⟨cX, cY⟩ := cV
   refine sa aU cX ?_; intro eN aV; clear aU
   refine s1 aV 2 (str ((((([48] : List UInt8) ++ (fnameS u0)) ++ ([49, 48, 49, 48] : List UInt8)) ++ (rrowS u0.Size 4).1) ++ (ofb u0.Data))) ?_; intro eO cZ; clear aV
   refine nlH (aQ _ _ ?_); clear aQ cQ
   refine wp_ret ?_
   refine ra1 cZ (str ((((([48] : List UInt8) ++ (fnameS u0)) ++ ([49, 48, 49, 48] : List UInt8)) ++ (rrowS u0.Size 4).1) ++ (ofb u0.Data))) ?_
   exact ⟨(((([48] : List UInt8) ++ (fnameS u0)) ++ ([49, 48, 49, 48] : List UInt8)) ++ (rrowS u0.Size 4).1) ++ (ofb u0.Data), rfl, cY, cW.below⟩
 · -- no
  have B := v.2 L; clear v
  refine sqB n a [0] [] [(15, .bool u0.Long)] ?_; intro eP p; clear n
  refine cd p (t := u0.Long) (by kernel_rfl) (fun P => ?_) (fun P => ?_)
  · -- yes
   have c0 := B.1 P; clear B
   refine rgH ?_; intro c1 aW
   refine s1 p 16 (str (([48] : List UInt8) ++ (fnameS u0))) ?_; intro eQ aX; clear p
   obtain ⟨c2, C⟩ := c0
   refine sa aX c2 ?_; intro eR aY; clear aX
   refine s1 aY 3 (str ((([48] : List UInt8) ++ (fnameS u0)) ++ ([48, 48] : List UInt8))) ?_; intro eT aZ; clear aY
   refine nlH (aW _ _ ?_); clear aW c1
   refine thn ?_
   refine sqB aZ a [0] [] [(4, i6 u0.Size)] ?_; intro eU a1; clear aZ
   refine wp_seq ?_
   refine sqB a1 a [0] [] [(24, .bool (!u0.Remote))] ?_; intro c3 q; clear a1
   refine cd q (t := !u0.Remote) (by kernel_rfl) (fun Q => ?_) (fun Q => ?_)
   · -- yes
    have c4 := C.1 Q; clear C
    have a2 : Fr 42 [] [⟨1, [], pt c 0⟩, ⟨3, [], str ((([48] : List UInt8) ++ (fnameS u0)) ++ ([48, 48] : List UInt8))⟩] c3 := q.region (by kernel_rfl) (by kernel_rfl); clear q
    refine rgS mixed a [(1, true), (2, true), (3, true), (0, false), (4, false), (5, true)] [] [0] [.row c (e69Rb u0 ao1 cap2) 69] ?_
    intro c5 a3 eV R; clear a
    have h := Fz.le.refl Z
    refine cS a2 3 [0] [] [(28, i6 (u0.Data.length : Int))] ?_; intro eW a4; clear a2
    refine eS rfl ?_; intro c6 a5
    refine ck a4 41 #[] ?_
    refine (rsizes_fun  _ _ R.fz).mono ?_; rintro _ a6 ⟨a8, a9, c7, rfl, hm⟩; refine ⟨_, rfl, ?_⟩; intro eX ba; have bb := R.callZ hm; have D := hm.ext.le; clear hm R a4
    replace hs3 := hs3.mono D
    replace hg3 := hg3.mono D
    replace h := h.mono D
    replace b := Fz.le.trans b D
    have bc : Mem w.heap.size [] w Z [.own t6 3 a8 a9 rsizes, .row c (e69Rb u0 ao1 cap2) 69] c7 a6 := bb; clear bb
    refine nl (qnI (a5 _ _ (bc.cst h [1]) ?_)); clear a5 c6
    refine eS rfl ?_; intro c8 bd
    obtain ⟨c9, E, be, da⟩ := bc.freeze 0 rfl
    replace hs3 := hs3.mono E
    replace hg3 := hg3.mono E
    replace h := h.mono E
    replace b := Fz.le.trans b E
    have S : Mem w.heap.size [] w Z [.row c (e69Rb u0 ao1 cap2) 69] c9 a6 := be; clear be
    refine fc ba S (sindex_fun rsizes (u0.Data.length : Int) a8 a9 _ _ da S.fz) ?_; intro eY eZ bf F; clear ba S
    refine nl (qnI (bd _ _ (F.cst h [0]) ?_)); clear bd c8
    refine cS bf 1 [] [] [(4, i6 (sindexS rsizes (u0.Data.length : Int)))] ?_; intro e0 bg; clear bf
    refine nS (a3 _ _ ?_); clear a3 c5
    refine thn ?_
    refine sqH ?_; intro db bh
    refine s1 bg 31 (i6 (sindexS rsizes (u0.Data.length : Int))) ?_; intro e1 bi; clear bg
    obtain ⟨dc, dd⟩ := c4
    refine fc bi F (rrow_fun (sindexS rsizes (u0.Data.length : Int)) 4 dc _ _ hg3 F.fz) ?_; intro e2 e3 bj i; clear bi F
    refine bt bj i 5 [] [] [(5, str (rrowS (sindexS rsizes (u0.Data.length : Int)) 4).1)] ?_; intro e4 bk; clear bj
    refine nlH (bh _ _ ?_); clear bh db
    refine sqH ?_; intro de bl
    refine bt bk i 2 [] [] [(35, str ((([48] : List UInt8) ++ (fnameS u0)) ++ ([48, 48] : List UInt8))), (36, str (rrowS (sindexS rsizes (u0.Data.length : Int)) 4).1)] ?_; intro e5 bm; clear bk
    obtain ⟨df, dg⟩ := dd
    refine sa bm df ?_; intro e6 bn; clear bm
    refine bt bn i 2 [0] [] [(39, .slice ao1 u0.Data.length cap2)] ?_; intro e7 bo; clear bn
    obtain ⟨dh, di⟩ := dg
    refine fc bo i (rofb_fun u0.Data dh ao1 cap2 _ _ hs3 hg3 i.fz) ?_; intro e8 e9 bp dj; clear bo i
    obtain ⟨dk, dl⟩ := di
    refine sa bp dk ?_; intro fa bq; clear bp
    refine s1 bq 2 (str ((((([48] : List UInt8) ++ (fnameS u0)) ++ ([48, 48] : List UInt8)) ++ (rrowS (sindexS rsizes (u0.Data.length : Int)) 4).1) ++ (ofb u0.Data))) ?_; intro fb dm; clear bq
    refine nlH (bl _ _ ?_); clear bl de
    refine wp_ret ?_
    refine ra1 dm (str ((((([48] : List UInt8) ++ (fnameS u0)) ++ ([48, 48] : List UInt8)) ++ (rrowS (sindexS rsizes (u0.Data.length : Int)) 4).1) ++ (ofb u0.Data))) ?_
    exact ⟨(((([48] : List UInt8) ++ (fnameS u0)) ++ ([48, 48] : List UInt8)) ++ (rrowS (sindexS rsizes (u0.Data.length : Int)) 4).1) ++ (ofb u0.Data), rfl, dl, dj.below⟩
   · -- no
    have dn := C.2 Q; clear C
    refine wp_skip ?_
    refine thn ?_
    refine sqH ?_; intro dp br
    refine s1 q 31 (i6 u0.Size) ?_; intro fd bs; clear q
    obtain ⟨dq, dr⟩ := dn
    refine fc bs a (rrow_fun u0.Size 4 dq _ _ hg3 a.fz) ?_; intro fe ff bu j; clear bs a
    refine bt bu j 5 [] [] [(5, str (rrowS u0.Size 4).1)] ?_; intro fg bv; clear bu
    refine nlH (br _ _ ?_); clear br dp
    refine sqH ?_; intro ds bw
    refine bt bv j 2 [] [] [(35, str ((([48] : List UInt8) ++ (fnameS u0)) ++ ([48, 48] : List UInt8))), (36, str (rrowS u0.Size 4).1)] ?_; intro fh bx; clear bv
    obtain ⟨dt, du⟩ := dr
    refine sa bx dt ?_; intro fi bz; clear bx
    refine bt bz j 2 [0] [] [(39, .slice ao1 u0.Data.length cap2)] ?_; intro fj bA; clear bz
    obtain ⟨dv, dw⟩ := du
    refine fc bA j (rofb_fun u0.Data dv ao1 cap2 _ _ hs3 hg3 j.fz) ?_; intro fk fl bB dx; clear bA j
    obtain ⟨dy, dz⟩ := dw
    refine sa bB dy ?_; intro fm bC; clear bB
    refine s1 bC 2 (str ((((([48] : List UInt8) ++ (fnameS u0)) ++ ([48, 48] : List UInt8)) ++ (rrowS u0.Size 4).1) ++ (ofb u0.Data))) ?_; intro fn dA; clear bC
    refine nlH (bw _ _ ?_); clear bw ds
    refine wp_ret ?_
    refine ra1 dA (str ((((([48] : List UInt8) ++ (fnameS u0)) ++ ([48, 48] : List UInt8)) ++ (rrowS u0.Size 4).1) ++ (ofb u0.Data))) ?_
    exact ⟨(((([48] : List UInt8) ++ (fnameS u0)) ++ ([48, 48] : List UInt8)) ++ (rrowS u0.Size 4).1) ++ (ofb u0.Data), rfl, dz, dx.below⟩
  · -- no
   have dB := B.2 P; clear B
   refine rgH ?_; intro dC bD
   refine s1 p 18 (str (([48] : List UInt8) ++ (fnameS u0))) ?_; intro fo bE; clear p
   obtain ⟨dD, G⟩ := dB
   refine sa bE dD ?_; intro fp bF; clear bE
   refine s1 bF 3 (str ((([48] : List UInt8) ++ (fnameS u0)) ++ ([48] : List UInt8))) ?_; intro fq bG; clear bF
   refine nlH (bD _ _ ?_); clear bD dC
   refine thn ?_
   refine sqB bG a [0] [] [(4, i6 u0.Size)] ?_; intro fr bH; clear bG
   refine wp_seq ?_
   refine sqB bH a [0] [] [(24, .bool (!u0.Remote))] ?_; intro dE s; clear bH
   refine cd s (t := !u0.Remote) (by kernel_rfl) (fun T => ?_) (fun T => ?_)
   · -- yes
    have dF := G.1 T; clear G
    have bI : Fr 42 [] [⟨1, [], pt c 0⟩, ⟨3, [], str ((([48] : List UInt8) ++ (fnameS u0)) ++ ([48] : List UInt8))⟩] dE := s.region (by kernel_rfl) (by kernel_rfl); clear s
    refine rgS mixed a [(1, true), (2, true), (3, true), (0, false), (4, false), (5, true)] [] [0] [.row c (e69Rb u0 ao1 cap2) 69] ?_
    intro dG bJ fs U; clear a
    have k := Fz.le.refl Z
    refine cS bI 3 [0] [] [(28, i6 (u0.Data.length : Int))] ?_; intro ft bK; clear bI
    refine eS rfl ?_; intro dH bL
    refine ck bK 41 #[] ?_
    refine (rsizes_fun  _ _ U.fz).mono ?_; rintro _ bM ⟨bN, bO, dI, rfl, hm⟩; refine ⟨_, rfl, ?_⟩; intro fu bP; have bQ := U.callZ hm; have H := hm.ext.le; clear hm U bK
    replace hs3 := hs3.mono H
    replace hg3 := hg3.mono H
    replace k := k.mono H
    replace b := Fz.le.trans b H
    have bR : Mem w.heap.size [] w Z [.own t6 3 bN bO rsizes, .row c (e69Rb u0 ao1 cap2) 69] dI bM := bQ; clear bQ
    refine nl (qnI (bL _ _ (bR.cst k [1]) ?_)); clear bL dH
    refine eS rfl ?_; intro dJ bS
    obtain ⟨dK, I, bT, dL⟩ := bR.freeze 0 rfl
    replace hs3 := hs3.mono I
    replace hg3 := hg3.mono I
    replace k := k.mono I
    replace b := Fz.le.trans b I
    have V : Mem w.heap.size [] w Z [.row c (e69Rb u0 ao1 cap2) 69] dK bM := bT; clear bT
    refine fc bP V (sindex_fun rsizes (u0.Data.length : Int) bN bO _ _ dL V.fz) ?_; intro fv fw bU J; clear bP V
    refine nl (qnI (bS _ _ (J.cst k [0]) ?_)); clear bS dJ
    refine cS bU 1 [] [] [(4, i6 (sindexS rsizes (u0.Data.length : Int)))] ?_; intro fx bV; clear bU
    refine nS (bJ _ _ ?_); clear bJ dG
    refine thn ?_
    refine sqH ?_; intro dM bW
    refine s1 bV 31 (i6 (sindexS rsizes (u0.Data.length : Int))) ?_; intro fy bX; clear bV
    obtain ⟨dN, dO⟩ := dF
    refine fc bX J (rrow_fun (sindexS rsizes (u0.Data.length : Int)) 4 dN _ _ hg3 J.fz) ?_; intro fA fB bY l; clear bX J
    refine bt bY l 5 [] [] [(5, str (rrowS (sindexS rsizes (u0.Data.length : Int)) 4).1)] ?_; intro fC bZ; clear bY
    refine nlH (bW _ _ ?_); clear bW dM
    refine sqH ?_; intro dP b0
    refine bt bZ l 2 [] [] [(35, str ((([48] : List UInt8) ++ (fnameS u0)) ++ ([48] : List UInt8))), (36, str (rrowS (sindexS rsizes (u0.Data.length : Int)) 4).1)] ?_; intro fD b1; clear bZ
    obtain ⟨dQ, dR⟩ := dO
    refine sa b1 dQ ?_; intro fE b2; clear b1
    refine bt b2 l 2 [0] [] [(39, .slice ao1 u0.Data.length cap2)] ?_; intro fF b3; clear b2
    obtain ⟨dS, dT⟩ := dR
    refine fc b3 l (rofb_fun u0.Data dS ao1 cap2 _ _ hs3 hg3 l.fz) ?_; intro fG fH b4 dU; clear b3 l
    obtain ⟨dV, dW⟩ := dT
    refine sa b4 dV ?_; intro fI b5; clear b4
    refine s1 b5 2 (str ((((([48] : List UInt8) ++ (fnameS u0)) ++ ([48] : List UInt8)) ++ (rrowS (sindexS rsizes (u0.Data.length : Int)) 4).1) ++ (ofb u0.Data))) ?_; intro fJ dX; clear b5
    refine nlH (b0 _ _ ?_); clear b0 dP
    refine wp_ret ?_
    refine ra1 dX (str ((((([48] : List UInt8) ++ (fnameS u0)) ++ ([48] : List UInt8)) ++ (rrowS (sindexS rsizes (u0.Data.length : Int)) 4).1) ++ (ofb u0.Data))) ?_
    exact ⟨(((([48] : List UInt8) ++ (fnameS u0)) ++ ([48] : List UInt8)) ++ (rrowS (sindexS rsizes (u0.Data.length : Int)) 4).1) ++ (ofb u0.Data), rfl, dW, dU.below⟩
   · -- no
    have dY := G.2 T; clear G
    refine wp_skip ?_
    refine thn ?_
    refine sqH ?_; intro dZ b7
    refine s1 s 31 (i6 u0.Size) ?_; intro fK b8; clear s
    obtain ⟨d0, d1⟩ := dY
    refine fc b8 a (rrow_fun u0.Size 4 d0 _ _ hg3 a.fz) ?_; intro fL fM b9 m; clear b8 a
    refine bt b9 m 5 [] [] [(5, str (rrowS u0.Size 4).1)] ?_; intro fN ca; clear b9
    refine nlH (b7 _ _ ?_); clear b7 dZ
    refine sqH ?_; intro d2 cb
    refine bt ca m 2 [] [] [(35, str ((([48] : List UInt8) ++ (fnameS u0)) ++ ([48] : List UInt8))), (36, str (rrowS u0.Size 4).1)] ?_; intro fO cc; clear ca
    obtain ⟨d3, d4⟩ := d1
    refine sa cc d3 ?_; intro fP ce; clear cc
    refine bt ce m 2 [0] [] [(39, .slice ao1 u0.Data.length cap2)] ?_; intro fQ cf; clear ce
    obtain ⟨d5, d6⟩ := d4
    refine fc cf m (rofb_fun u0.Data d5 ao1 cap2 _ _ hs3 hg3 m.fz) ?_; intro fR fS cg d7; clear cf m
    obtain ⟨d8, d9⟩ := d6
    refine sa cg d8 ?_; intro fT ch; clear cg
    refine s1 ch 2 (str ((((([48] : List UInt8) ++ (fnameS u0)) ++ ([48] : List UInt8)) ++ (rrowS u0.Size 4).1) ++ (ofb u0.Data))) ?_; intro fU ea; clear ch
    refine nlH (cb _ _ ?_); clear cb d2
    refine wp_ret ?_
    refine ra1 ea (str ((((([48] : List UInt8) ++ (fnameS u0)) ++ ([48] : List UInt8)) ++ (rrowS u0.Size 4).1) ++ (ofb u0.Data))) ?_
    exact ⟨(((([48] : List UInt8) ++ (fnameS u0)) ++ ([48] : List UInt8)) ++ (rrowS u0.Size 4).1) ++ (ofb u0.Data), rfl, d9, d7.below⟩

theorem rlmost_walk (u0 : Int)  (Z : Fz) (w : World)  (hZ : Z.on w) {K : Int → Prop} (hp : rlmost_vc u0 K) : Calls Tryd.prog 32 #[i6 u0] w fun e w' => ∃ r : Int, e = .returned (i6 r) ∧ K r ∧ Below w.heap.size w w' := by
 refine enter0 Tryd.func32 rfl rfl (by kernel_rfl) ?_; intro f b; have a := Mem.start w Z hZ; have g := Fz.le.refl Z
 refine sqB b a [] [] [] ?_; intro h c; clear b
 refine sqB c a [] [] [(2, i6 (w64 (u0 + (w64 ((w64 (u0 - 1)).tdiv 4)))))] ?_; intro i d; clear c
 refine wp_ret ?_
 refine ra1 d (i6 (w64 (u0 + (w64 ((w64 (u0 - 1)).tdiv 4))))) ?_
 exact ⟨w64 (u0 + (w64 ((w64 (u0 - 1)).tdiv 4))), rfl, hp, a.below⟩
theorem rlmost_fun (u0 : Int)  (Z : Fz) (w : World)  (hZ : Z.on w) : Calls Tryd.prog 32 #[i6 u0] w fun e w' => e = .returned (i6 (rlmost u0)) ∧ Below w.heap.size w w' :=
  (rlmost_walk u0  Z w  hZ (rlmost_ok u0)).mono fun _ _ ⟨r, he, hk, hb⟩ => ⟨by subst hk; exact he, hb⟩

end Go.Proofs.YtginlmgkimfjmaaDoor
set_option linter.unusedVariables false
set_option linter.unusedSimpArgs false
set_option maxRecDepth 100000
set_option maxHeartbeats 0
namespace Go.Proofs.YtginlmgkimfjmaaDoor
open Go.Sy Go.RowKit
theorem flongest_fun (u0 : Bool) (u1 : Bool) (u2 : Int)  (Z : Fz) (w : World)  (hZ : Z.on w) : Calls Tryd.prog 26 #[.bool u0, .bool u1, i6 u2] w fun e w' => e = .returned (.tuple #[i6 (flongestS u0 u1 u2).1, i6 (flongestS u0 u1 u2).2]) ∧ Below w.heap.size w w' :=
  (flongest_walk u0 u1 u2  Z w  hZ (flongest_ok u0 u1 u2)).mono fun _ _ ⟨r, he, hk, hb⟩ => ⟨by subst hk; exact he, hb⟩

theorem dlong_walk (u0 : Task)  (Z : Fz) (w : World)  (hZ : Z.on w) {K : Int → Prop} (hp : dlong_vc u0 K) : Calls Tryd.prog 16 #[.agg #[i6 u0.ID, i6 u0.Bytes, i6 u0.Every, i6 u0.Late, i6 u0.Jitter]] w fun e w' => ∃ r : Int, e = .returned (i6 r) ∧ K r ∧ Below w.heap.size w w' := by
 refine enter0 Tryd.func16 rfl rfl (by kernel_rfl) ?_; intro p c; have d := Mem.start w Z hZ; have q := Fz.le.refl Z
 refine sqH ?_; intro m f
 refine nw c d pb [i6 u0.ID, i6 u0.Bytes, i6 u0.Every, i6 u0.Late, i6 u0.Jitter] 32 ?_; intro s t u g a; clear c d
 refine s1 g 2 (i6 0) ?_; intro v h; clear g
 refine nlH (f _ _ ?_); clear f m
 refine sqH ?_; intro n i
 refine bt h a 2 [0] [] [(7, i6 u0.Bytes)] ?_; intro x j; clear h
 refine fc j a (flongest_fun false false u0.Bytes _ _ a.fz) ?_; intro y z k b; clear j a
 refine bt k b 5 [] [] [(3, i6 (flongestS false false u0.Bytes).1)] ?_; intro A l; clear k
 refine nlH (i _ _ ?_); clear i n
 refine sqB l b [] [] [(2, i6 (w64 ((flongestS false false u0.Bytes).1 + 3)))] ?_; intro B o; clear l
 refine wp_ret ?_
 refine ra1 o (i6 (w64 ((flongestS false false u0.Bytes).1 + 3))) ?_
 exact ⟨w64 ((flongestS false false u0.Bytes).1 + 3), rfl, hp, b.below⟩

end Go.Proofs.YtginlmgkimfjmaaDoor
set_option linter.unusedVariables false
set_option linter.unusedSimpArgs false
set_option maxRecDepth 100000
set_option maxHeartbeats 0
namespace Go.Proofs.YtginlmgkimfjmaaDoor
open Go.Sy Go.RowKit
theorem rhead_fun (u0 : Frame) (hpre : fcheckfr u0 = 0 ∧ ∀ x ∈ u0.Data, 0 ≤ x ∧ x ≤ 255) (ao1 : Option Addr) (cap2 : Nat) (Z : Fz) (w : World) (hs3 : SlR t8 Z ao1 cap2 u0.Data) (hg3 : SlR t8 Z (sm 3) 64 deBruijn64) (hZ : Z.on w) : Calls Tryd.prog 31 #[.agg #[i6 u0.ID, .bool u0.Long, .bool u0.Fast, .bool u0.Remote, i6 u0.Size, .slice ao1 u0.Data.length cap2]] w fun e w' => e = .returned (str (fheadS u0)) ∧ Below w.heap.size w w' :=
  (rhead_walk u0 ao1 cap2 Z w hs3 hg3 hZ (rhead_ok u0 hpre)).mono fun _ _ ⟨r, he, hk, hb⟩ => ⟨by subst hk; exact he, hb⟩

theorem rlong_walk (u0 : Bool) (u1 : Bool) (u2 : Int)  (Z : Fz) (w : World) (hg3 : SlR t8 Z (sm 3) 64 deBruijn64) (hZ : Z.on w) {K : Int → Prop} (hp : rlong_vc u0 u1 u2 K) : Calls Tryd.prog 21 #[.bool u0, .bool u1, i6 u2] w fun e w' => ∃ r : Int, e = .returned (i6 r) ∧ K r ∧ Below w.heap.size w w' := by
 refine enter0 Tryd.func21 rfl rfl (by kernel_rfl) ?_; intro a0 m; have d := Mem.start w Z hZ; have n := Fz.le.refl Z
 refine sqB m d [] [] [] ?_; intro a2 o; clear m
 refine sqH ?_; intro U p
 refine bt o d 3 [] [] [(10, .bool u0), (11, .bool u1), (12, i6 u2)] ?_; intro a9 q; clear o
 obtain ⟨ak, V⟩ := hp
 refine mks q d (T := t8) u2 u2 (k := .i64) (k' := .i64) (e := 5) (bytes := 1) (zs := [y8 0]) (z := 0) (by simp only [lim]; omega) (nog rfl _) rfl (by kernel_rfl) rfl (by kernel_rfl) (by kernel_rfl) (by kernel_rfl) (by kernel_rfl) rfl ?_; intro h al s u v; clear q d
 have W : Mem w.heap.size [] w Z [.own t8 5 (sm h) u2.toNat (List.replicate u2.toNat (0 : Int))] Z s := v; clear v
 refine s1 u 14 (.agg #[i6 0, .bool u0, .bool u1, .bool false, i6 0, .slice (sm h) (List.replicate u2.toNat (0 : Int)).length u2.toNat]) ?_; intro am x; clear u
 obtain ⟨X, y, A, Y⟩ := W.freeze 0 rfl
 replace hg3 := hg3.mono y
 replace n := Fz.le.trans n y
 have i : Mem w.heap.size [] w Z [] X s := A; clear A
 obtain ⟨aa, f⟩ := V
 refine fc x i (rhead_fun (⟨0, u0, u1, false, 0, (List.replicate u2.toNat (0 : Int))⟩ : Frame) aa (sm h) u2.toNat _ _ Y hg3 i.fz) ?_; intro an ao B a; clear x i
 refine bt B a 2 [] [] [(7, i6 ((fheadS (⟨0, u0, u1, false, 0, (List.replicate u2.toNat (0 : Int))⟩ : Frame)).length : Int))] ?_; intro ap C; clear B
 refine nlH (p _ _ ?_); clear p U
 refine sqB C a [] [] [(8, .func (.func 32) #[] #[])] ?_; intro aq D; clear C
 refine wp_seq ?_
 refine sqB D a [] [] [(18, .bool (!u1))] ?_; intro ar b; clear D
 refine cd b (t := !u1) (by kernel_rfl) (fun j => ?_) (fun j => ?_)
 · -- yes
  have ab := f.1 j; clear f
  refine sqH ?_; intro ac E
  refine bt b a 3 [] [] [(19, .func (.func 32) #[] #[]), (21, i6 (w64 (((fheadS (⟨0, u0, u1, false, 0, (List.replicate u2.toNat (0 : Int))⟩ : Frame)).length : Int) + 15)))] ?_; intro au F; clear b
  refine fc F a (rlmost_fun (w64 (((fheadS (⟨0, u0, u1, false, 0, (List.replicate u2.toNat (0 : Int))⟩ : Frame)).length : Int) + 15)) _ _ a.fz) ?_; intro av aw G H; clear F a
  refine bt G H 2 [] [] [(6, i6 (w64 ((rlmost (w64 (((fheadS (⟨0, u0, u1, false, 0, (List.replicate u2.toNat (0 : Int))⟩ : Frame)).length : Int) + 15))) + 10)))] ?_; intro ax ad; clear G
  refine nlH (E _ _ ?_); clear E ac
  refine wp_ret ?_
  refine thr ?_
  refine ra1 ad (i6 (w64 ((rlmost (w64 (((fheadS (⟨0, u0, u1, false, 0, (List.replicate u2.toNat (0 : Int))⟩ : Frame)).length : Int) + 15))) + 10))) ?_
  exact ⟨w64 ((rlmost (w64 (((fheadS (⟨0, u0, u1, false, 0, (List.replicate u2.toNat (0 : Int))⟩ : Frame)).length : Int) + 15))) + 10), rfl, ab, H.below⟩
 · -- no
  have g := f.2 j; clear f
  refine wp_skip ?_
  refine thn ?_
  refine sqB b a [] [] [(9, i6 21)] ?_; intro ay I; clear b
  refine wp_seq ?_
  refine sqB I a [] [] [(25, .bool (decide (u2 > 16)))] ?_; intro az c; clear I
  refine cd c (t := decide (u2 > 16)) (by kernel_rfl) (fun l => ?_) (fun l => ?_)
  · -- yes
   have ae := g.1 l; clear g
   refine rgB c a [] [] [(9, i6 25)] ?_; intro aA J; clear c
   refine thn ?_
   refine sqH ?_; intro af L
   refine bt J a 2 [] [] [(26, .func (.func 32) #[] #[]), (27, i6 ((fheadS (⟨0, u0, u1, false, 0, (List.replicate u2.toNat (0 : Int))⟩ : Frame)).length : Int))] ?_; intro aB M; clear J
   refine fc M a (rlmost_fun ((fheadS (⟨0, u0, u1, false, 0, (List.replicate u2.toNat (0 : Int))⟩ : Frame)).length : Int) _ _ a.fz) ?_; intro aC aD N O; clear M a
   refine bt N O 8 [] [] [(6, i6 (w64 ((w64 ((w64 ((rlmost ((fheadS (⟨0, u0, u1, false, 0, (List.replicate u2.toNat (0 : Int))⟩ : Frame)).length : Int)) + 25)) + 7)) + 10)))] ?_; intro aE ag; clear N
   refine nlH (L _ _ ?_); clear L af
   refine wp_ret ?_
   refine ra1 ag (i6 (w64 ((w64 ((w64 ((rlmost ((fheadS (⟨0, u0, u1, false, 0, (List.replicate u2.toNat (0 : Int))⟩ : Frame)).length : Int)) + 25)) + 7)) + 10))) ?_
   exact ⟨w64 ((w64 ((w64 ((rlmost ((fheadS (⟨0, u0, u1, false, 0, (List.replicate u2.toNat (0 : Int))⟩ : Frame)).length : Int)) + 25)) + 7)) + 10), rfl, ae, O.below⟩
  · -- no
   have ah := g.2 l; clear g
   refine wp_skip ?_
   refine thn ?_
   refine sqH ?_; intro ai P
   refine bt c a 2 [] [] [(26, .func (.func 32) #[] #[]), (27, i6 ((fheadS (⟨0, u0, u1, false, 0, (List.replicate u2.toNat (0 : Int))⟩ : Frame)).length : Int))] ?_; intro aF Q; clear c
   refine fc Q a (rlmost_fun ((fheadS (⟨0, u0, u1, false, 0, (List.replicate u2.toNat (0 : Int))⟩ : Frame)).length : Int) _ _ a.fz) ?_; intro aG aH R S; clear Q a
   refine bt R S 8 [] [] [(6, i6 (w64 ((w64 ((w64 ((rlmost ((fheadS (⟨0, u0, u1, false, 0, (List.replicate u2.toNat (0 : Int))⟩ : Frame)).length : Int)) + 21)) + 6)) + 10)))] ?_; intro aI aj; clear R
   refine nlH (P _ _ ?_); clear P ai
   refine wp_ret ?_
   refine ra1 aj (i6 (w64 ((w64 ((w64 ((rlmost ((fheadS (⟨0, u0, u1, false, 0, (List.replicate u2.toNat (0 : Int))⟩ : Frame)).length : Int)) + 21)) + 6)) + 10))) ?_
   exact ⟨w64 ((w64 ((w64 ((rlmost ((fheadS (⟨0, u0, u1, false, 0, (List.replicate u2.toNat (0 : Int))⟩ : Frame)).length : Int)) + 21)) + 6)) + 10), rfl, ah, S.below⟩

end Go.Proofs.YtginlmgkimfjmaaDoor
set_option linter.unusedVariables false
set_option linter.unusedSimpArgs false
set_option maxRecDepth 100000
set_option maxHeartbeats 0
namespace Go.Proofs.YtginlmgkimfjmaaDoor
open Go.Sy Go.RowKit
theorem dlong_fun (u0 : Task)  (Z : Fz) (w : World)  (hZ : Z.on w) : Calls Tryd.prog 16 #[.agg #[i6 u0.ID, i6 u0.Bytes, i6 u0.Every, i6 u0.Late, i6 u0.Jitter]] w fun e w' => e = .returned (i6 (dlongS u0)) ∧ Below w.heap.size w w' :=
  (dlong_walk u0  Z w  hZ (dlong_ok u0)).mono fun _ _ ⟨r, he, hk, hb⟩ => ⟨by subst hk; exact he, hb⟩

theorem dtasks_walk   (Z : Fz) (w : World)  (hZ : Z.on w) {K : (List Task) → Prop} (hp : dtasks_vc  K) : Calls Tryd.prog 19 #[] w fun e w' => ∃ (r : (List Task)) (ao1001 : Option Addr) (cap1002 : Nat) (Z' : Fz), e = .returned (.slice ao1001 r.length cap1002) ∧ K r ∧ Mem w.heap.size [] w Z [.own tyTask 32 ao1001 cap1002 r] Z' w' := by
 refine enter0 Tryd.func19 rfl rfl (by kernel_rfl) ?_; intro o d; have a := Mem.start w Z hZ; have p := Fz.le.refl Z
 refine sqB d a [] [] [] ?_; intro q f; clear d
 refine sqH ?_; intro k g
 refine bt f a 2 [] [] [(1, .agg #[i6 1, i6 8, i6 1000, i6 1000, i6 0]), (2, .agg #[i6 2, i6 8, i6 1000, i6 1000, i6 0])] ?_; intro s h; clear f
 refine nw h a (fun b => .slice (sm b) 2 2) [i6 1, i6 8, i6 1000, i6 1000, i6 0, i6 2, i6 8, i6 1000, i6 1000, i6 0] 32 ?_; intro c t l i j; clear h a
 refine s1 i 0 (.slice (sm c) 2 2) ?_; intro u m; clear i
 refine nlH (g _ _ ?_); clear g k
 refine wp_ret ?_
 have n : Mem w.heap.size [] w Z [.own tyTask 32 (sm c) 2 ([(⟨1, 8, 1000, 1000, 0⟩ : Task), (⟨2, 8, 1000, 1000, 0⟩ : Task)] : List Task)] Z l := j.rowOwn (T := tyTask) (xs := ([(⟨1, 8, 1000, 1000, 0⟩ : Task), (⟨2, 8, 1000, 1000, 0⟩ : Task)] : List Task)) 0 rfl (by decide) (by show 2 ≤ lim; decide) ((RepAll.one (T := tyTask) (x := (⟨1, 8, 1000, 1000, 0⟩ : Task)) rfl).append (RepAll.one (T := tyTask) (x := (⟨2, 8, 1000, 1000, 0⟩ : Task)) rfl)); clear j
 refine ra1 m (.slice (sm c) ([(⟨1, 8, 1000, 1000, 0⟩ : Task), (⟨2, 8, 1000, 1000, 0⟩ : Task)] : List Task).length 2) ?_
 exact ⟨([(⟨1, 8, 1000, 1000, 0⟩ : Task), (⟨2, 8, 1000, 1000, 0⟩ : Task)] : List Task), (sm c), 2, Z, rfl, hp, n.keep (List.Sublist.cons_cons _ (List.Sublist.slnil))⟩

end Go.Proofs.YtginlmgkimfjmaaDoor
