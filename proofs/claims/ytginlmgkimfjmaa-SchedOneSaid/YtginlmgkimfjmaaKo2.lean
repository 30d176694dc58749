/- Texts put together (pure ones, or walks made by program). -/
import Derived.Test.YtginlmgkimfjmaaKo0
import Derived.Test.YtginlmgkimfjmaaKo1
import Derived.Shelf.Lay
import Derived.Ground.NamesProg
import Derived.Shelf.Strings.Builder1
import Derived.Test.YtginlmgkimfjmaaRows
namespace Go.Sy
open Go.Proofs Go.Shelf Go.RowKit
variable {P : Program} {ρ : Ren} {B b : Nat} {w0 : World} {Z : Fz} {w w' : World} {T e : TypeId} {ao : Option Addr} {cap : Nat} {p : Value}
theorem repBytes {Z : Fz} {cells : List Value} {xs : List UInt8} (h : RepAll tyByte Z cells xs) : cells = Lib.byteCells xs := by
  have hl : cells.length = xs.length * 1 := h.1
  apply List.ext_getElem?
  intro i
  unfold Lib.byteCells
  rw [List.getElem?_map]
  rcases Nat.lt_or_ge i xs.length with hi | hi
  · have hx : xs[i]? = some xs[i] := List.getElem?_eq_getElem hi
    have hr : ((cells.drop (i * 1)).take 1) = [.int .u8 (xs[i].toNat : Int)] := h.2 i _ hx
    rw [hx, Nat.mul_one] at *
    have := congrArg (fun l => l[0]?) hr
    simpa using this
  · rw [List.getElem?_eq_none (by omega), List.getElem?_eq_none hi]
    rfl
theorem bytesRep (Z : Fz) (xs : List UInt8) : RepAll tyByte Z (Lib.byteCells xs) xs := by
  refine ⟨by simp [Lib.byteCells, tyByte], fun i x hx => ?_⟩
  show ((Lib.byteCells xs).drop (i * 1)).take 1 = [.int .u8 (x.toNat : Int)]
  have hi := (List.getElem?_eq_some_iff.1 hx).1
  unfold Lib.byteCells
  rw [Nat.mul_one, List.drop_eq_getElem_cons (by simpa using hi)]
  have hx2 : xs[i] = x := (List.getElem?_eq_some_iff.1 hx).2
  simp [hx2]
/-- The memory of a call that has one builder and nothing else of its own. -/
abbrev BldR (b : Nat) (p : Value) (T e : TypeId) (ao : Option Addr) (cap : Nat) (xs : List UInt8) : List Res := [.row b [p, .slice ao xs.length cap] T, .own tyByte e ao cap xs]
theorem bld_is {xs : List UInt8} (hM : Mem B [] w0 Z (BldR b p T e ao cap xs) Z w) (hp : p = .pointer none ∨ p = .pointer (some ⟨b, 0, none⟩)) : Lib.IsBuilder T e B b (Lib.byteCells xs) w := by
  have h1 := hM.res (.row b [p, .slice ao xs.length cap] T) (by simp)
  have h2 := hM.res (.own tyByte e ao cap xs) (by simp)
  obtain ⟨_, _, cells, ho, hr⟩ := h2
  have hc := repBytes hr
  subst hc
  have hl : (Lib.byteCells xs).length = xs.length := Lib.byteCells_length xs
  have hB : B ≤ b := h1.1.elim id (by simp)
  have hn : (Value.slice ao xs.length cap).ownBlock ≠ some b := by
    have hnd := (List.pairwise_cons.1 hM.nd).1 (.own tyByte e ao cap xs) (by simp) b rfl
    cases ao with
    | none => simp [Value.ownBlock]
    | some ad => simpa [Value.ownBlock, Res.foot] using hnd
  have hA : Lib.BuilderAt T e B b p (Lib.byteCells xs) w := ⟨hB, _, h1.2, by rw [hl]; exact ho, hn⟩
  rcases hp with rfl | rfl
  · exact .inl hA
  · exact .inr hA
theorem bld_back {R : List Res} {ys : List UInt8} (hM : Mem B [] w0 Z R Z w) (hZB : ∀ k o, Z k = some o → k < B) (hA : Lib.BuilderAt T e B b (.pointer (some ⟨b, 0, none⟩)) (Lib.byteCells ys) w') (hb : Below B w w') (hl : ys.length ≤ lim) :
    ∃ ao cap, Mem B [] w0 Z (BldR b (.pointer (some ⟨b, 0, none⟩)) T e ao cap ys) Z w' := by
  obtain ⟨hBb, v, hv, ho, hne⟩ := hA
  rw [Lib.byteCells_length] at ho
  have hshape : ∃ ao cap, v = .slice ao ys.length cap := by
    rcases ho.2 with ⟨e1, e2⟩ | ⟨g, c, cur, e1, _⟩
    · exact ⟨none, 0, by rw [e1, e2]⟩
    · exact ⟨_, c, e1⟩
  obtain ⟨ao, cap, rfl⟩ := hshape
  have hsz := hb.size
  have hbase : B ≤ w'.heap.size := Nat.le_trans hM.base hsz
  have hfb : ∀ k, (Res.own tyByte e ao cap ys).foot = some k → B ≤ k ∧ k ≠ b := by
    intro k hk
    cases ao with
    | none => simp [Res.foot] at hk
    | some ad =>
      simp only [Res.foot, Option.map_some, Option.some.injEq] at hk
      subst hk
      refine ⟨(World.ownsRow.lt ho ad.block rfl).1, fun hc => hne ?_⟩
      rw [← hc]
      rfl
  refine ⟨ao, cap, ⟨hM.kept.os ▸ hb.os, hM.kept.tape ▸ hb.tape, hM.kept.output ▸ hb.output, Nat.le_trans hM.kept.size hsz, fun k hk hU => (hb.block k hk).trans (hM.kept.block k hk hU)⟩, hbase, ?_, ?_, fun k o hk => by rw [hb.block k (hZB k o hk)]; exact hM.fz k o hk, hM.ext, ?_⟩
  · intro r hr
    rcases List.mem_cons.1 hr with rfl | hr
    · exact ⟨.inl hBb, hv⟩
    · rcases List.mem_cons.1 hr with rfl | hr
      · exact ⟨Nat.one_pos, hl, _, ho, bytesRep Z ys⟩
      · cases hr
  · refine List.Pairwise.cons (fun s hs k hk hc => ?_) (List.Pairwise.cons (by simp) List.Pairwise.nil)
    simp only [List.mem_cons, List.not_mem_nil, or_false] at hs
    subst hs
    have hkb : k = b := by simpa [Res.foot, eq_comm] using hk
    exact (hfb k hc).2 hkb
  · intro r hr k hk
    have hBk : B ≤ k := by
      rcases List.mem_cons.1 hr with rfl | hr
      · have : k = b := by simpa [Res.foot, eq_comm] using hk
        omega
      · rcases List.mem_cons.1 hr with rfl | hr
        · exact (hfb k hk).1
        · cases hr
    cases hz : Z k with
    | none => rfl
    | some o => have := hZB k o hz; omega
theorem Mem.bldNil (hM : Mem B [] w0 Z [.row b [p, .slice none 0 0] T] Z w) (e : TypeId) : Mem B [] w0 Z (BldR b p T e none 0 []) Z w :=
  ((hM.addNil tyByte e Nat.one_pos).perm (List.Perm.swap _ _ _))
theorem bld_write (L : Lays.n166 P ρ) (X : Builder.Extra P ρ) {xs s : List UInt8} (hM : Mem B [] w0 Z (BldR b p (ρ.t 72) (ρ.t 5) ao cap xs) Z w) (hZB : ∀ k o, Z k = some o → k < B) (hp : p = .pointer none ∨ p = .pointer (some ⟨b, 0, none⟩)) (hl : xs.length + s.length ≤ 140737488355328) :
    Calls P (ρ.f 166) #[.pointer (some ⟨b, 0, none⟩), str s] w fun e w' => ∃ ao' cap', e = .returned (.tuple #[.int .i64 (s.length : Int), .nilIface]) ∧ Mem B [] w0 Z (BldR b (.pointer (some ⟨b, 0, none⟩)) (ρ.t 72) (ρ.t 5) ao' cap' (xs ++ s)) Z w' := by
  refine (Any.Builder_WriteString L X B b _ ⟨⟨s⟩⟩ w (bld_is hM hp) (by rw [Lib.byteCells_length]; exact hl) hM.base).mono fun e1 w1 ⟨he, hA, hb⟩ => ?_
  have e2 : Lib.byteCells xs ++ Lib.strCells ⟨⟨s⟩⟩ = Lib.byteCells (xs ++ s) := by simp [Lib.byteCells, Lib.strCells]
  rw [e2] at hA
  obtain ⟨ao', cap', h⟩ := bld_back hM hZB hA hb (by rw [List.length_append]; exact hl)
  exact ⟨ao', cap', he, h⟩
theorem bld_string (L : Lays.n169 P ρ) (X : Builder.Extra P ρ) {xs : List UInt8} (hM : Mem B [] w0 Z (BldR b p (ρ.t 72) (ρ.t 5) ao cap xs) Z w) (hZB : ∀ k o, Z k = some o → k < B) (hp : p = .pointer none ∨ p = .pointer (some ⟨b, 0, none⟩)) :
    Calls P (ρ.f 169) #[.pointer (some ⟨b, 0, none⟩)] w fun e w' => e = .returned (str xs) ∧ Mem B [] w0 Z [] Z w' := by
  refine (Any.Builder_String_any L X B b xs w (bld_is hM hp) hM.base).mono fun e1 w1 ⟨he, hb⟩ => ⟨he, ?_⟩
  exact ⟨⟨hM.kept.os ▸ hb.os, hM.kept.tape ▸ hb.tape, hM.kept.output ▸ hb.output, Nat.le_trans hM.kept.size hb.size, fun k hk hU => (hb.block k hk).trans (hM.kept.block k hk hU)⟩, Nat.le_trans hM.base hb.size, by simp, List.Pairwise.nil, fun k o hk => by rw [hb.block k (hZB k o hk)]; exact hM.fz k o hk, hM.ext, by simp⟩
theorem zB {w : World} (h : Z.on w) : ∀ k o, Z k = some o → k < w.heap.size := fun k o hk => lt_of_get (h k o hk)
end Go.Sy
namespace Go.Proofs
open Go.Shelf
def Try.lays166_ren : Go.Shelf.Ren := ⟨fun | 166 => 128 | 240 => 135 | 276 => 137 | n => n, fun | 37 => 22 | 70 => 189 | 72 => 191 | 75 => 193 | 80 => 196 | 164 => 204 | n => n, fun n => n⟩
theorem Try.lays166 : Lays.n166 Try.prog Try.lays166_ren := {
  mixed := by kernel_rfl
  f166 := Try.func128.trans (congrArg some (by kernel_rfl))
  f240 := Try.func135.trans (congrArg some (by kernel_rfl))
  f276 := Try.func137.trans (congrArg some (by kernel_rfl))
  t0 := Try.underlying0
  a0 := Try.isAgg0
  z0 := Try.sizeOf0
  v0 := Try.zeroValue0
  t3 := Try.underlying3
  a3 := Try.isAgg3
  z3 := Try.sizeOf3
  v3 := Try.zeroValue3
  t4 := Try.underlying4
  a4 := Try.isAgg4
  z4 := Try.sizeOf4
  v4 := Try.zeroValue4
  t9 := Try.underlying9
  a9 := Try.isAgg9
  z9 := Try.sizeOf9
  v9 := Try.zeroValue9
  t20 := Try.underlying20
  a20 := Try.isAgg20
  z20 := Try.sizeOf20
  v20 := Try.zeroValue20
  t37 := Try.underlying22
  a37 := Try.isAgg22
  z37 := Try.sizeOf22
  v37 := Try.zeroValue22
  t70 := Try.underlying189
  a70 := Try.isAgg189
  z70 := Try.sizeOf189
  v70 := Try.zeroValue189
  t72 := Try.underlying191
  a72 := Try.isAgg191
  z72 := Try.sizeOf191
  v72 := Try.zeroValue191
  t75 := Try.underlying193
  a75 := Try.isAgg193
  z75 := Try.sizeOf193
  v75 := Try.zeroValue193
  t164 := Try.underlying204
  a164 := Try.isAgg204
  z164 := Try.sizeOf204
  v164 := Try.zeroValue204 }
theorem Try.lays166X : Builder.Extra Try.prog Try.lays166_ren := {
  sizeBuilder := by kernel_rfl
  liesBuilder := by kernel_rfl
  t5 := by kernel_rfl
  a5 := fun w => by kernel_rfl
  z5 := fun w => by kernel_rfl
  v5 := fun w => by kernel_rfl
  infoByte := by kernel_rfl
  cellsByte := by kernel_rfl
  sizeByte := by kernel_rfl
  neB5 := by decide }

def Try.lays169_ren : Go.Shelf.Ren := ⟨fun | 169 => 129 | n => n, fun | 37 => 22 | 70 => 189 | 72 => 191 | 127 => 203 | n => n, fun n => n⟩
theorem Try.lays169 : Lays.n169 Try.prog Try.lays169_ren := {
  mixed := by kernel_rfl
  f169 := Try.func129.trans (congrArg some (by kernel_rfl))
  t0 := Try.underlying0
  a0 := Try.isAgg0
  z0 := Try.sizeOf0
  v0 := Try.zeroValue0
  t3 := Try.underlying3
  a3 := Try.isAgg3
  z3 := Try.sizeOf3
  v3 := Try.zeroValue3
  t9 := Try.underlying9
  a9 := Try.isAgg9
  z9 := Try.sizeOf9
  v9 := Try.zeroValue9
  t37 := Try.underlying22
  a37 := Try.isAgg22
  z37 := Try.sizeOf22
  v37 := Try.zeroValue22
  t70 := Try.underlying189
  a70 := Try.isAgg189
  z70 := Try.sizeOf189
  v70 := Try.zeroValue189
  t72 := Try.underlying191
  a72 := Try.isAgg191
  z72 := Try.sizeOf191
  v72 := Try.zeroValue191
  t127 := Try.underlying203
  a127 := Try.isAgg203
  z127 := Try.sizeOf203
  v127 := Try.zeroValue203 }
theorem Try.lays169X : Builder.Extra Try.prog Try.lays169_ren := {
  sizeBuilder := by kernel_rfl
  liesBuilder := by kernel_rfl
  t5 := by kernel_rfl
  a5 := fun w => by kernel_rfl
  z5 := fun w => by kernel_rfl
  v5 := fun w => by kernel_rfl
  infoByte := by kernel_rfl
  cellsByte := by kernel_rfl
  sizeByte := by kernel_rfl
  neB5 := by decide }

end Go.Proofs
set_option linter.unusedVariables false
set_option linter.unusedSimpArgs false
set_option maxRecDepth 100000
set_option maxHeartbeats 0
namespace Go.Proofs.Ytginlmgkimfjmaa
open Go.Sy Go.RowKit
theorem mixed : Try.prog.follows .mixedOrders = true := by kernel_rfl
theorem rdFrame : Rd Try.prog 58 tyFrame okFrame := by
  refine ⟨fun enc w fuel cs x h hw => ?_⟩
  have hu : Try.prog.underlying 58 = some (.struct _) := Try.underlying58
  have hl := rd_len hu h (m := 6) (by kernel_rfl)
  obtain ⟨j, o, p⟩ := rd_field hu h hw 0 rfl (rd_int (P := Try.prog) (t := 3) (k := .i64) (by kernel_rfl)) (m := 1) (by kernel_rfl) (off := 0) rfl
  have q : (cs.drop 0).take 1 = [i6 j] := o
  obtain ⟨i, r, s⟩ := rd_field hu h hw 1 rfl (rd_bool (P := Try.prog) (t := 4) (by kernel_rfl)) (m := 1) (by kernel_rfl) (off := 1) rfl
  have u : (cs.drop 1).take 1 = [.bool i] := r
  obtain ⟨g, v, y⟩ := rd_field hu h hw 2 rfl (rd_bool (P := Try.prog) (t := 4) (by kernel_rfl)) (m := 1) (by kernel_rfl) (off := 2) rfl
  have A : (cs.drop 2).take 1 = [.bool g] := v
  obtain ⟨f, B, C⟩ := rd_field hu h hw 3 rfl (rd_bool (P := Try.prog) (t := 4) (by kernel_rfl)) (m := 1) (by kernel_rfl) (off := 3) rfl
  have D : (cs.drop 3).take 1 = [.bool f] := B
  obtain ⟨d, E, F⟩ := rd_field hu h hw 4 rfl (rd_int (P := Try.prog) (t := 3) (k := .i64) (by kernel_rfl)) (m := 1) (by kernel_rfl) (off := 4) rfl
  have G : (cs.drop 4).take 1 = [i6 d] := E
  obtain ⟨a, l, H⟩ := rd_field hu h hw 5 rfl (rd_slice (P := Try.prog) (t := 22) (e := 5) (bytes := 1) (by kernel_rfl) (rd_int (P := Try.prog) (t := 5) (k := .u8) (by kernel_rfl))) (m := 1) (by kernel_rfl) (off := 5) rfl
  obtain ⟨b, c, l, I⟩ := l
  have J : (cs.drop 5).take 1 = [.slice b a.length c] := l
  have z : cs.drop 6 = [] := List.drop_eq_nil_of_le (by omega)
  have K : cs.drop 5 = [.slice b a.length c] := by rw [show cs.drop 5 = (cs.drop 5).take 1 ++ cs.drop 6 from cut_at cs 5 1, J, z]; rfl
  have L : cs.drop 4 = [i6 d, .slice b a.length c] := by rw [show cs.drop 4 = (cs.drop 4).take 1 ++ cs.drop 5 from cut_at cs 4 1, G, K]; rfl
  have M : cs.drop 3 = [.bool f, i6 d, .slice b a.length c] := by rw [show cs.drop 3 = (cs.drop 3).take 1 ++ cs.drop 4 from cut_at cs 3 1, D, L]; rfl
  have N : cs.drop 2 = [.bool g, .bool f, i6 d, .slice b a.length c] := by rw [show cs.drop 2 = (cs.drop 2).take 1 ++ cs.drop 3 from cut_at cs 2 1, A, M]; rfl
  have O : cs.drop 1 = [.bool i, .bool g, .bool f, i6 d, .slice b a.length c] := by rw [show cs.drop 1 = (cs.drop 1).take 1 ++ cs.drop 2 from cut_at cs 1 1, u, N]; rfl
  have n : cs.drop 0 = [i6 j, .bool i, .bool g, .bool f, i6 d, .slice b a.length c] := by rw [show cs.drop 0 = (cs.drop 0).take 1 ++ cs.drop 1 from cut_at cs 0 1, q, O]; rfl
  refine ⟨⟨j, i, g, f, d, a⟩, ?_, p, s, y, C, F, H⟩
  rw [List.drop_zero] at n
  exact ⟨b, c, n, I⟩

theorem rdTask : Rd Try.prog 34 tyTask okTask := by
  refine ⟨fun enc w fuel cs x h hw => ?_⟩
  have hu : Try.prog.underlying 34 = some (.struct _) := Try.underlying34
  have hl := rd_len hu h (m := 5) (by kernel_rfl)
  obtain ⟨e, g, i⟩ := rd_field hu h hw 0 rfl (rd_int (P := Try.prog) (t := 3) (k := .i64) (by kernel_rfl)) (m := 1) (by kernel_rfl) (off := 0) rfl
  have j : (cs.drop 0).take 1 = [i6 e] := g
  obtain ⟨d, l, n⟩ := rd_field hu h hw 1 rfl (rd_int (P := Try.prog) (t := 3) (k := .i64) (by kernel_rfl)) (m := 1) (by kernel_rfl) (off := 1) rfl
  have o : (cs.drop 1).take 1 = [i6 d] := l
  obtain ⟨c, p, q⟩ := rd_field hu h hw 2 rfl (rd_int (P := Try.prog) (t := 3) (k := .i64) (by kernel_rfl)) (m := 1) (by kernel_rfl) (off := 2) rfl
  have r : (cs.drop 2).take 1 = [i6 c] := p
  obtain ⟨b, s, u⟩ := rd_field hu h hw 3 rfl (rd_int (P := Try.prog) (t := 3) (k := .i64) (by kernel_rfl)) (m := 1) (by kernel_rfl) (off := 3) rfl
  have v : (cs.drop 3).take 1 = [i6 b] := s
  obtain ⟨a, y, A⟩ := rd_field hu h hw 4 rfl (rd_int (P := Try.prog) (t := 3) (k := .i64) (by kernel_rfl)) (m := 1) (by kernel_rfl) (off := 4) rfl
  have B : (cs.drop 4).take 1 = [i6 a] := y
  have z : cs.drop 5 = [] := List.drop_eq_nil_of_le (by omega)
  have C : cs.drop 4 = [i6 a] := by rw [show cs.drop 4 = (cs.drop 4).take 1 ++ cs.drop 5 from cut_at cs 4 1, B, z]; rfl
  have D : cs.drop 3 = [i6 b, i6 a] := by rw [show cs.drop 3 = (cs.drop 3).take 1 ++ cs.drop 4 from cut_at cs 3 1, v, C]; rfl
  have E : cs.drop 2 = [i6 c, i6 b, i6 a] := by rw [show cs.drop 2 = (cs.drop 2).take 1 ++ cs.drop 3 from cut_at cs 2 1, r, D]; rfl
  have F : cs.drop 1 = [i6 d, i6 c, i6 b, i6 a] := by rw [show cs.drop 1 = (cs.drop 1).take 1 ++ cs.drop 2 from cut_at cs 1 1, o, E]; rfl
  have f : cs.drop 0 = [i6 e, i6 d, i6 c, i6 b, i6 a] := by rw [show cs.drop 0 = (cs.drop 0).take 1 ++ cs.drop 1 from cut_at cs 0 1, j, F]; rfl
  refine ⟨⟨e, d, c, b, a⟩, ?_, i, n, q, u, A⟩
  rw [List.drop_zero] at f
  exact f

theorem rdStop : Rd Try.prog 40 tyStop okStop := by
  refine ⟨fun enc w fuel cs x h hw => ?_⟩
  have hu : Try.prog.underlying 40 = some (.struct _) := Try.underlying40
  have hl := rd_len hu h (m := 2) (by kernel_rfl)
  obtain ⟨b, d, e⟩ := rd_field hu h hw 0 rfl (rd_int (P := Try.prog) (t := 3) (k := .i64) (by kernel_rfl)) (m := 1) (by kernel_rfl) (off := 0) rfl
  have f : (cs.drop 0).take 1 = [i6 b] := d
  obtain ⟨a, g, i⟩ := rd_field hu h hw 1 rfl (rd_bool (P := Try.prog) (t := 4) (by kernel_rfl)) (m := 1) (by kernel_rfl) (off := 1) rfl
  have j : (cs.drop 1).take 1 = [.bool a] := g
  have z : cs.drop 2 = [] := List.drop_eq_nil_of_le (by omega)
  have l : cs.drop 1 = [.bool a] := by rw [show cs.drop 1 = (cs.drop 1).take 1 ++ cs.drop 2 from cut_at cs 1 1, j, z]; rfl
  have c : cs.drop 0 = [i6 b, .bool a] := by rw [show cs.drop 0 = (cs.drop 0).take 1 ++ cs.drop 1 from cut_at cs 0 1, f, l]; rfl
  refine ⟨⟨b, a⟩, ?_, e, i⟩
  rw [List.drop_zero] at c
  exact c

theorem rdKind : Rd Try.prog 176 tyKind okKind := by
  refine ⟨fun enc w fuel cs x h hw => ?_⟩
  have hu : Try.prog.underlying 176 = some (.struct _) := Try.underlying176
  have hl := rd_len hu h (m := 4) (by kernel_rfl)
  obtain ⟨d, f, g⟩ := rd_field hu h hw 0 rfl (rd_int (P := Try.prog) (t := 3) (k := .i64) (by kernel_rfl)) (m := 1) (by kernel_rfl) (off := 0) rfl
  have i : (cs.drop 0).take 1 = [i6 d] := f
  obtain ⟨c, j, l⟩ := rd_field hu h hw 1 rfl (rd_int (P := Try.prog) (t := 169) (k := .u64) (by kernel_rfl)) (m := 1) (by kernel_rfl) (off := 1) rfl
  have n : (cs.drop 1).take 1 = [y6 c] := j
  obtain ⟨b, o, p⟩ := rd_field hu h hw 2 rfl (rd_int (P := Try.prog) (t := 169) (k := .u64) (by kernel_rfl)) (m := 1) (by kernel_rfl) (off := 2) rfl
  have q : (cs.drop 2).take 1 = [y6 b] := o
  obtain ⟨a, r, s⟩ := rd_field hu h hw 3 rfl (rd_int (P := Try.prog) (t := 169) (k := .u64) (by kernel_rfl)) (m := 1) (by kernel_rfl) (off := 3) rfl
  have u : (cs.drop 3).take 1 = [y6 a] := r
  have z : cs.drop 4 = [] := List.drop_eq_nil_of_le (by omega)
  have v : cs.drop 3 = [y6 a] := by rw [show cs.drop 3 = (cs.drop 3).take 1 ++ cs.drop 4 from cut_at cs 3 1, u, z]; rfl
  have y : cs.drop 2 = [y6 b, y6 a] := by rw [show cs.drop 2 = (cs.drop 2).take 1 ++ cs.drop 3 from cut_at cs 2 1, q, v]; rfl
  have A : cs.drop 1 = [y6 c, y6 b, y6 a] := by rw [show cs.drop 1 = (cs.drop 1).take 1 ++ cs.drop 2 from cut_at cs 1 1, n, y]; rfl
  have e : cs.drop 0 = [i6 d, y6 c, y6 b, y6 a] := by rw [show cs.drop 0 = (cs.drop 0).take 1 ++ cs.drop 1 from cut_at cs 0 1, i, A]; rfl
  refine ⟨⟨d, c, b, a⟩, ?_, g, l, p, s⟩
  rw [List.drop_zero] at e
  exact e

theorem rdSlot : Rd Try.prog 48 tySlot okSlot := by
  refine ⟨fun enc w fuel cs x h hw => ?_⟩
  have hu : Try.prog.underlying 48 = some (.struct _) := Try.underlying48
  have hl := rd_len hu h (m := 4) (by kernel_rfl)
  obtain ⟨d, f, g⟩ := rd_field hu h hw 0 rfl (rd_int (P := Try.prog) (t := 3) (k := .i64) (by kernel_rfl)) (m := 1) (by kernel_rfl) (off := 0) rfl
  have i : (cs.drop 0).take 1 = [i6 d] := f
  obtain ⟨c, j, l⟩ := rd_field hu h hw 1 rfl (rd_int (P := Try.prog) (t := 3) (k := .i64) (by kernel_rfl)) (m := 1) (by kernel_rfl) (off := 1) rfl
  have n : (cs.drop 1).take 1 = [i6 c] := j
  obtain ⟨b, o, p⟩ := rd_field hu h hw 2 rfl (rd_int (P := Try.prog) (t := 3) (k := .i64) (by kernel_rfl)) (m := 1) (by kernel_rfl) (off := 2) rfl
  have q : (cs.drop 2).take 1 = [i6 b] := o
  obtain ⟨a, r, s⟩ := rd_field hu h hw 3 rfl (rd_int (P := Try.prog) (t := 3) (k := .i64) (by kernel_rfl)) (m := 1) (by kernel_rfl) (off := 3) rfl
  have u : (cs.drop 3).take 1 = [i6 a] := r
  have z : cs.drop 4 = [] := List.drop_eq_nil_of_le (by omega)
  have v : cs.drop 3 = [i6 a] := by rw [show cs.drop 3 = (cs.drop 3).take 1 ++ cs.drop 4 from cut_at cs 3 1, u, z]; rfl
  have y : cs.drop 2 = [i6 b, i6 a] := by rw [show cs.drop 2 = (cs.drop 2).take 1 ++ cs.drop 3 from cut_at cs 2 1, q, v]; rfl
  have A : cs.drop 1 = [i6 c, i6 b, i6 a] := by rw [show cs.drop 1 = (cs.drop 1).take 1 ++ cs.drop 2 from cut_at cs 1 1, n, y]; rfl
  have e : cs.drop 0 = [i6 d, i6 c, i6 b, i6 a] := by rw [show cs.drop 0 = (cs.drop 0).take 1 ++ cs.drop 1 from cut_at cs 0 1, i, A]; rfl
  refine ⟨⟨d, c, b, a⟩, ?_, g, l, p, s⟩
  rw [List.drop_zero] at e
  exact e

theorem bwrite_walk (u0 : Int) (u1 : Int)  (Z : Fz) (w : World)  (hZ : Z.on w) {K : (List UInt8) → Prop} (hp : bwrite_vc u0 u1 K) : Calls Try.prog 115 #[y6 u0, i6 u1] w fun e w' => ∃ r : (List UInt8), e = .returned (str r) ∧ K r ∧ Below w.heap.size w w' := by
 refine enter0 Try.func115 rfl rfl (by kernel_rfl) ?_; intro a0 q; have l := Mem.start w Z hZ; have aw := Fz.le.refl Z
 refine sqB q l [] [] [] ?_; intro a2 v; clear q
 refine sqH ?_; intro V x
 refine s1 v 7 (i6 u1) ?_; intro a5 y; clear v
 obtain ⟨ax, W⟩ := hp
 refine mks y l (T := t8) u1 u1 (k := .i64) (k' := .i64) (e := 5) (bytes := 1) (zs := [y8 0]) (z := 0) (by simp only [lim]; omega) (nog rfl _) rfl (by kernel_rfl) rfl (by kernel_rfl) (by kernel_rfl) (by kernel_rfl) (by kernel_rfl) rfl ?_; intro b ay X A B; clear y l
 have m : Mem w.heap.size [] w Z [.own t8 5 (sm b) u1.toNat (List.replicate u1.toNat (0 : Int))] Z X := B; clear B
 refine s1 A 5 (.slice (sm b) (List.replicate u1.toNat (0 : Int)).length u1.toNat) ?_; intro az C; clear A
 refine nlH (x _ _ ?_); clear x V
 refine wp_seq ?_
 refine sqB C m [] [] [(9, i6 u1), (10, i6 0)] ?_; intro D E; clear C
 refine wp_block ?_
 have F : Fr 28 [] [⟨0, [], y6 u0⟩, ⟨1, [], i6 u1⟩, ⟨5, [], .slice (sm b) (List.replicate u1.toNat (0 : Int)).length u1.toNat⟩, ⟨9, [], i6 u1⟩, ⟨10, [], i6 0⟩] D := E.region (by kernel_rfl) (by kernel_rfl); clear E
 have G : Fr 28 [] [⟨0, [], y6 u0⟩, ⟨1, [], i6 u1⟩, ⟨5, [], .slice (sm b) (List.replicate u1.toNat (0 : Int)).length u1.toNat⟩, ⟨9, [], i6 u1⟩, ⟨10, [], i6 0⟩] D := F.region (by kernel_rfl) (by kernel_rfl); clear F
 obtain ⟨Y, aa, ab, ac⟩ := W
 refine lp (ι := Int × Int × (List Int)) (fun s => [⟨0, [], y6 s.1⟩, ⟨1, [], i6 u1⟩, ⟨5, [], .slice (sm b) s.2.2.length u1.toNat⟩, ⟨9, [], i6 u1⟩, ⟨10, [], i6 s.2.1⟩]) (fun s => [.own t8 5 (sm b) u1.toNat s.2.2]) (fun s => Z) (fun s => Y s.1 s.2.1 s.2.2) (fun s => aa s.1 s.2.1 s.2.2) ⟨u0, 0, (List.replicate u1.toNat (0 : Int))⟩ ab (by exact G.region (by kernel_rfl) (by kernel_rfl)) (by exact m) ?_
 rintro ⟨d, a, c⟩ ad ae af H I
 have J : Fr 28 [] [⟨0, [], y6 d⟩, ⟨1, [], i6 u1⟩, ⟨5, [], .slice (sm b) c.length u1.toNat⟩, ⟨9, [], i6 u1⟩, ⟨10, [], i6 a⟩] ae := H; clear H G
 have f : Mem w.heap.size [] w Z [.own t8 5 (sm b) u1.toNat c] Z af := I; clear I m
 have i := ac d a c ad
 refine sqB J f [] [] [(11, .bool (decide (a < u1)))] ?_; intro aA h; clear J
 refine wp_seq ?_
 refine cd h (t := decide (a < u1)) (by kernel_rfl) (fun n => ?_) (fun n => ?_)
 · -- yes
  have ag := i.1 n; clear i
  refine wp_skip ?_
  refine thn ?_
  refine wp_seq ?_
  refine wp_block ?_
  refine sqB h f [] [] [(6, i6 a)] ?_; intro aB L; clear h
  refine sqH ?_; intro ah M
  refine bt L f 9 [] [] [(13, .slice (sm b) c.length u1.toNat), (17, i6 (w64 ((w64 (u1 - 1)) - a))), (21, y8 (w8 (48 + (w8 (bAnd .u64 d 1)))))] ?_; intro aC N; clear L
  obtain ⟨ai, O⟩ := ag
  refine ixo N f 0 (T := t8) (xs := c) (w64 ((w64 (u1 - 1)) - a)) ai (k := .i64) (e := 5) (bytes := 1) (nog rfl _) rfl (by kernel_rfl) rfl (by kernel_rfl) (by kernel_rfl) rfl (by kernel_rfl) ?_; intro aj ak al j; clear N
  obtain rfl : b = aj := by simpa using al
  refine so j f 0 (T := t8) (xs := c) (w64 ((w64 (u1 - 1)) - a)).toNat (w8 (48 + (w8 (bAnd .u64 d 1)))) (u := y8 (w8 (48 + (w8 (bAnd .u64 d 1))))) (nog rfl _) rfl rfl (by kernel_rfl) rfl (by kernel_rfl) rfl (by kernel_rfl) (by first | omega | (simp only [List.length_set] at *; omega)) rfl ?_; intro am P; clear f
  have Q : Fr 28 [] [⟨0, [], y6 d⟩, ⟨1, [], i6 u1⟩, ⟨5, [], .slice (sm b) (c.set (w64 ((w64 (u1 - 1)) - a)).toNat (w8 (48 + (w8 (bAnd .u64 d 1))))).length u1.toNat⟩, ⟨6, [], i6 a⟩, ⟨9, [], i6 u1⟩, ⟨10, [], i6 a⟩, ⟨11, [], .bool (decide (a < u1))⟩, ⟨13, [], .slice (sm b) (c.set (w64 ((w64 (u1 - 1)) - a)).toNat (w8 (48 + (w8 (bAnd .u64 d 1))))).length u1.toNat⟩, ⟨17, [], i6 (w64 ((w64 (u1 - 1)) - a))⟩, ⟨21, [], y8 (w8 (48 + (w8 (bAnd .u64 d 1))))⟩, ⟨22, [], .pointer (some ⟨b, (w64 ((w64 (u1 - 1)) - a)).toNat * 1, none⟩)⟩] ak := by (try simp only [List.length_set] at j); (try simp only [List.length_set]); exact j.region (by kernel_rfl) (by kernel_rfl)
  clear j
  have o : Mem w.heap.size [] w Z [.own t8 5 (sm b) u1.toNat (c.set (w64 ((w64 (u1 - 1)) - a)).toNat (w8 (48 + (w8 (bAnd .u64 d 1)))))] Z am := P; clear P
  refine nlH (M _ _ ?_); clear M ah
  refine rgB Q o [] [] [(0, y6 (bShr .u64 d 1))] ?_; intro aD R; clear Q
  refine ibn ?_
  refine thn ?_
  refine rgB R o [] [] [(10, i6 (w64 (a + 1)))] ?_; intro aE an; clear R
  refine rd ?_
  exact ⟨⟨bShr .u64 d 1, w64 (a + 1), c.set (w64 ((w64 (u1 - 1)) - a)).toNat (w8 (48 + (w8 (bAnd .u64 d 1))))⟩, O.1, O.2, (an.region (by kernel_rfl) (by kernel_rfl)).anyβ _ (by kernel_rfl), o.keep (List.Sublist.cons_cons _ (List.Sublist.slnil))⟩
 · -- no
  have ap := i.2 n; clear i
  refine wp_exit ?_
  refine thx ?_
  refine thx ?_
  refine ibx ?_
  refine thn ?_
  refine sqH ?_; intro aq S
  refine s1 h 26 (.slice (sm b) c.length u1.toNat) ?_; intro aF p; clear h
  refine st p (str (bstr c)) (nog rfl _) rfl (by kernel_rfl) ((by obtain ⟨Z9, aG, ar, au⟩ := f.lend 0 rfl; exact bstr_op p (g := []) (e := 5) (ao := (sm b)) (cap := u1.toNat) (xs := c) rfl (by kernel_rfl) (by kernel_rfl) (by kernel_rfl) (by kernel_rfl)  au ar rfl)) ?_; intro aH U; clear p
  refine s1 U 4 (str (bstr c)) ?_; intro aI av; clear U
  refine nlH (S _ _ ?_); clear S aq
  refine wp_ret ?_
  refine ra1 av (str (bstr c)) ?_
  exact ⟨bstr c, rfl, ap, f.below⟩

end Go.Proofs.Ytginlmgkimfjmaa
set_option linter.unusedVariables false
set_option linter.unusedSimpArgs false
set_option maxRecDepth 100000
set_option maxHeartbeats 0
namespace Go.Proofs.Ytginlmgkimfjmaa
open Go.Sy Go.RowKit
theorem bwrite_fun (u0 : Int) (u1 : Int) (hpre : 0 ≤ u1 ∧ u1 ≤ 64 ∧ 0 ≤ u0 ∧ u0 < 2 ^ 62)  (Z : Fz) (w : World)  (hZ : Z.on w) : Calls Try.prog 115 #[y6 u0, i6 u1] w fun e w' => e = .returned (str (bwriteS u0 u1)) ∧ Below w.heap.size w w' :=
  (bwrite_walk u0 u1  Z w  hZ (bwrite_ok u0 u1 hpre)).mono fun _ _ ⟨r, he, hk, hb⟩ => ⟨by subst hk; exact he, hb⟩

theorem bof_walk (u0 : List Int) (ao1 : Option Addr) (cap2 : Nat) (Z : Fz) (w : World) (hs3 : SlR t8 Z ao1 cap2 u0) (hZ : Z.on w) {K : ((List UInt8) × Int) → Prop} (hp : bof_vc u0 K) : Calls Try.prog 114 #[.slice ao1 u0.length cap2] w fun e w' => ∃ r : (List UInt8) × Int, e = .returned (.tuple #[str r.1, i6 r.2]) ∧ K r ∧ Below w.heap.size w w' := by
 refine enter0 Try.func114 rfl rfl (by kernel_rfl) ?_; intro a0 u; have g := Mem.start w Z hZ; have aL := Fz.le.refl Z
 have hzB := Go.Sy.zB hZ
 have j := hp (hs3.small); clear hp
 refine sqB u g [] [] [] ?_; intro a8 v; clear u
 refine wp_seq ?_
 refine sqB v g [] [] [(9, .bool (decide ((u0.length : Int) > 125)))] ?_; intro aM h; clear v
 refine cd h (t := decide ((u0.length : Int) > 125)) (by kernel_rfl) (fun m => ?_) (fun m => ?_)
 · -- yes
  have ae := j.1 m; clear j
  refine sqB h g [] [] [(2, str []), (3, i6 2)] ?_; intro aN af; clear h
  refine wp_ret ?_
  refine thr ?_
  refine ra2 af (.tuple #[str [], i6 2]) ?_
  exact ⟨([], 2), rfl, ae, g.below⟩
 · -- no
  have ag := j.2 m; clear j
  refine wp_skip ?_
  refine thn ?_
  refine sqH ?_; intro ah x
  refine nw h g pb [.pointer none, .slice none 0 0] 191 ?_; intro a aO ai y n; clear h g
  refine nlH (x _ _ ?_); clear x ah
  refine wp_seq ?_
  refine sqB y n [] [] [(10, .slice ao1 u0.length cap2), (11, i6 (u0.length : Int)), (12, i6 0)] ?_; intro z A; clear y
  refine wp_block ?_
  have B : Fr 22 [] [⟨4, [], pt a 0⟩, ⟨10, [], .slice ao1 u0.length cap2⟩, ⟨11, [], i6 (u0.length : Int)⟩, ⟨12, [], i6 0⟩] z := A.region (by kernel_rfl) (by kernel_rfl); clear A
  have C : Mem w.heap.size [] w Z [.row a [.pointer none, .slice none ([] : List UInt8).length 0] 191, .own tyByte 5 none 0 ([] : List UInt8)] Z ai := n.bldNil 5; clear n
  have D : Fr 22 [] [⟨4, [], pt a 0⟩, ⟨10, [], .slice ao1 u0.length cap2⟩, ⟨11, [], i6 (u0.length : Int)⟩, ⟨12, [], i6 0⟩] z := B.region (by kernel_rfl) (by kernel_rfl); clear B
  obtain ⟨aj, ak, al, am⟩ := ag
  refine lp (ι := Int × (List UInt8) × Value × (Option Addr) × Nat) (fun s => [⟨4, [], pt a 0⟩, ⟨10, [], .slice ao1 u0.length cap2⟩, ⟨11, [], i6 (u0.length : Int)⟩, ⟨12, [], i6 s.1⟩]) (fun s => [.row a [s.2.2.1, .slice s.2.2.2.1 s.2.1.length s.2.2.2.2] 191, .own tyByte 5 s.2.2.2.1 s.2.2.2.2 s.2.1]) (fun s => Z) (fun s => aj s.1 s.2.1 ∧ (s.2.2.1 = .pointer none ∨ s.2.2.1 = pt a 0)) (fun s => ak s.1 s.2.1) ⟨0, ([] : List UInt8), (.pointer none), none, 0⟩ ⟨al, (.inl rfl)⟩ (by exact D.region (by kernel_rfl) (by kernel_rfl)) (by exact C) ?_
  rintro ⟨f, c, an, E, F⟩ ⟨ao, G⟩ ap aq H I
  have J : Fr 22 [] [⟨4, [], pt a 0⟩, ⟨10, [], .slice ao1 u0.length cap2⟩, ⟨11, [], i6 (u0.length : Int)⟩, ⟨12, [], i6 f⟩] ap := H; clear H D
  have d : Mem w.heap.size [] w Z [.row a [an, .slice E c.length F] 191, .own tyByte 5 E F c] Z aq := I; clear I C
  have l := am f c ao
  refine sqB J d [] [] [(13, .bool (decide (f < (u0.length : Int))))] ?_; intro aP i; clear J
  refine wp_seq ?_
  refine cd i (t := decide (f < (u0.length : Int))) (by kernel_rfl) (fun o => ?_) (fun o => ?_)
  · -- yes
   have ar := l.1 o; clear l
   refine wp_skip ?_
   refine thn ?_
   refine wp_seq ?_
   refine wp_block ?_
   refine sqH ?_; intro au L
   obtain ⟨av, M⟩ := ar
   refine ix i (T := t8) (xs := u0) hs3 f av (k := .i64) (e := 5) (bytes := 1) (nog rfl _) rfl (by kernel_rfl) rfl (by kernel_rfl) (by kernel_rfl) (by kernel_rfl) ?_; intro aQ aR aw b aS ax ay az N; clear i
   have aA := M b ax; clear M
   obtain rfl : aw = ([y8 b] : List Value) := az
   refine z1 N d 15 ay 0 (y8 b) rfl ?_; intro aT O; clear N
   refine s1 O 6 (y8 b) ?_; intro aU P; clear O
   refine nlH (L _ _ ?_); clear L au
   refine rgH ?_; intro aB Q
   refine bt P d 2 [] [] [(17, y6 (wu64 b))] ?_; intro aV R; clear P
   obtain ⟨aC, aD⟩ := aA
   refine fc R d (bwrite_fun (wu64 b) 8 aC _ _ d.fz) ?_; intro aW aX S U; clear R d
   obtain ⟨aE, V⟩ := aD
   refine ck S 128 #[pt a 0, str (bwriteS (wu64 b) 8)] ?_
   refine (Go.Sy.bld_write Try.lays166 Try.lays166X U hzB G aE).mono ?_; rintro _ aF ⟨p, q, rfl, hm⟩; refine ⟨_, rfl, ?_⟩; intro aY W; have X := hm; clear hm U S
   have Y : Mem w.heap.size [] w Z [.row a [pt a 0, .slice p (c ++ (bwriteS (wu64 b) 8)).length q] 191, .own tyByte 5 p q (c ++ (bwriteS (wu64 b) 8))] Z aF := X; clear X
   refine nlH (Q _ _ ?_); clear Q aB
   refine ibn ?_
   refine thn ?_
   refine rgB W Y [] [] [(12, i6 (w64 (f + 1)))] ?_; intro aZ aG; clear W
   refine rd ?_
   exact ⟨⟨w64 (f + 1), c ++ (bwriteS (wu64 b) 8), (pt a 0), p, q⟩, ⟨V.1, (.inr rfl)⟩, V.2, (aG.region (by kernel_rfl) (by kernel_rfl)).anyβ _ (by kernel_rfl), Y.keep (List.Sublist.cons_cons _ (List.Sublist.cons_cons _ (List.Sublist.slnil)))⟩
  · -- no
   have aH := l.2 o; clear l
   refine wp_exit ?_
   refine thx ?_
   refine thx ?_
   refine ibx ?_
   refine thn ?_
   refine sqH ?_; intro aI aa
   refine ck i 129 #[pt a 0] ?_
   refine (Go.Sy.bld_string Try.lays169 Try.lays169X d hzB G).mono ?_; rintro _ aJ ⟨rfl, hm⟩; refine ⟨_, rfl, ?_⟩; intro a1 ab; have ac := hm; clear hm d i
   have ad : Mem w.heap.size [] w Z [] Z aJ := ac; clear ac
   refine bt ab ad 2 [] [] [(2, str c), (3, i6 0)] ?_; intro a2 aK; clear ab
   refine nlH (aa _ _ ?_); clear aa aI
   refine wp_ret ?_
   refine ra2 aK (.tuple #[str c, i6 0]) ?_
   exact ⟨(c, 0), rfl, aH, ad.below⟩

end Go.Proofs.Ytginlmgkimfjmaa
set_option linter.unusedVariables false
set_option linter.unusedSimpArgs false
set_option maxRecDepth 100000
set_option maxHeartbeats 0
namespace Go.Proofs.Ytginlmgkimfjmaa
open Go.Sy Go.RowKit
abbrev e58Dc (X : Frame) (A0 : Option Addr) (C0 : Nat) : List Value := [i6 X.ID, .bool X.Long, .bool X.Fast, .bool X.Remote, i6 X.Size, .slice A0 X.Data.length C0]
abbrev e34Dc (X : Task) : List Value := [i6 X.ID, i6 X.Bytes, i6 X.Every, i6 X.Late, i6 X.Jitter]
theorem bof_fun (u0 : List Int) (hpre : ∀ x ∈ u0, 0 ≤ x ∧ x ≤ 255) (ao1 : Option Addr) (cap2 : Nat) (Z : Fz) (w : World) (hs3 : SlR t8 Z ao1 cap2 u0) (hZ : Z.on w) : Calls Try.prog 114 #[.slice ao1 u0.length cap2] w fun e w' => e = .returned (.tuple #[str (bofS u0).1, i6 (bofS u0).2]) ∧ Below w.heap.size w w' :=
  (bof_walk u0 ao1 cap2 Z w hs3 hZ (bof_ok u0 hpre)).mono fun _ _ ⟨r, he, hk, hb⟩ => ⟨by subst hk; exact he, hb⟩

theorem fsizes_walk   (Z : Fz) (w : World)  (hZ : Z.on w) {K : (List Int) → Prop} (hp : fsizes_vc  K) : Calls Try.prog 91 #[] w fun e w' => ∃ (r : (List Int)) (ao1001 : Option Addr) (cap1002 : Nat) (Z' : Fz), e = .returned (.slice ao1001 r.length cap1002) ∧ K r ∧ Mem w.heap.size [] w Z [.own t6 3 ao1001 cap1002 r] Z' w' := by
 refine enter0 Try.func91 rfl rfl (by kernel_rfl) ?_; intro n d; have c := Mem.start w Z hZ; have o := Fz.le.refl Z
 refine sqB d c [] [] [] ?_; intro p f; clear d
 refine sqH ?_; intro j g
 refine nw f c (fun b => .slice (sm b) 16 16) [i6 0, i6 1, i6 2, i6 3, i6 4, i6 5, i6 6, i6 7, i6 8, i6 12, i6 16, i6 20, i6 24, i6 32, i6 48, i6 64] 3 ?_; intro a q k h i; clear f c
 refine s1 h 0 (.slice (sm a) 16 16) ?_; intro s l; clear h
 refine nlH (g _ _ ?_); clear g j
 refine wp_ret ?_
 have m : Mem w.heap.size [] w Z [.own t6 3 (sm a) 16 ([0, 1, 2, 3, 4, 5, 6, 7, 8, 12, 16, 20, 24, 32, 48, 64] : List Int)] Z k := i.rowOwn (T := t6) (xs := ([0, 1, 2, 3, 4, 5, 6, 7, 8, 12, 16, 20, 24, 32, 48, 64] : List Int)) 0 rfl (by decide) (by show 16 ≤ lim; decide) ((RepAll.one (T := t6) (x := 0) rfl).append ((RepAll.one (T := t6) (x := 1) rfl).append ((RepAll.one (T := t6) (x := 2) rfl).append ((RepAll.one (T := t6) (x := 3) rfl).append ((RepAll.one (T := t6) (x := 4) rfl).append ((RepAll.one (T := t6) (x := 5) rfl).append ((RepAll.one (T := t6) (x := 6) rfl).append ((RepAll.one (T := t6) (x := 7) rfl).append ((RepAll.one (T := t6) (x := 8) rfl).append ((RepAll.one (T := t6) (x := 12) rfl).append ((RepAll.one (T := t6) (x := 16) rfl).append ((RepAll.one (T := t6) (x := 20) rfl).append ((RepAll.one (T := t6) (x := 24) rfl).append ((RepAll.one (T := t6) (x := 32) rfl).append ((RepAll.one (T := t6) (x := 48) rfl).append (RepAll.one (T := t6) (x := 64) rfl)))))))))))))))); clear i
 refine ra1 l (.slice (sm a) ([0, 1, 2, 3, 4, 5, 6, 7, 8, 12, 16, 20, 24, 32, 48, 64] : List Int).length 16) ?_
 exact ⟨([0, 1, 2, 3, 4, 5, 6, 7, 8, 12, 16, 20, 24, 32, 48, 64] : List Int), (sm a), 16, Z, rfl, hp, m.keep (List.Sublist.cons_cons _ (List.Sublist.slnil))⟩
theorem fsizes_fun   (Z : Fz) (w : World)  (hZ : Z.on w) : Calls Try.prog 91 #[] w fun e w' => ∃ (ao1001 : Option Addr) (cap1002 : Nat) (Z' : Fz), e = .returned (.slice ao1001 fsizes.length cap1002) ∧ Mem w.heap.size [] w Z [.own t6 3 ao1001 cap1002 fsizes] Z' w' :=
  (fsizes_walk   Z w  hZ (fsizes_ok )).mono fun _ _ ⟨r, h0, h1, h2, he, hk, hm⟩ => by subst hk; exact ⟨h0, h1, h2, he, hm⟩

theorem fbit_walk (u0 : Bool)  (Z : Fz) (w : World)  (hZ : Z.on w) {K : (List UInt8) → Prop} (hp : fbit_vc u0 K) : Calls Try.prog 127 #[.bool u0] w fun e w' => ∃ r : (List UInt8), e = .returned (str r) ∧ K r ∧ Below w.heap.size w w' := by
 refine enter0 Try.func127 rfl rfl (by kernel_rfl) ?_; intro k d; have a := Mem.start w Z hZ; have l := Fz.le.refl Z
 refine sqB d a [] [] [] ?_; intro m f; clear d
 refine wp_seq ?_
 refine sqB f a [] [] [(3, .bool u0)] ?_; intro n b; clear f
 refine cd b (t := u0) (by kernel_rfl) (fun c => ?_) (fun c => ?_)
 · -- yes
  have g := hp.1 c; clear hp
  refine sqB b a [] [] [(2, str ([49] : List UInt8))] ?_; intro o h; clear b
  refine wp_ret ?_
  refine thr ?_
  refine ra1 h (str ([49] : List UInt8)) ?_
  exact ⟨([49] : List UInt8), rfl, g, a.below⟩
 · -- no
  have i := hp.2 c; clear hp
  refine wp_skip ?_
  refine thn ?_
  refine sqB b a [] [] [(2, str ([48] : List UInt8))] ?_; intro p j; clear b
  refine wp_ret ?_
  refine ra1 j (str ([48] : List UInt8)) ?_
  exact ⟨([48] : List UInt8), rfl, i, a.below⟩
theorem fbit_fun (u0 : Bool)  (Z : Fz) (w : World)  (hZ : Z.on w) : Calls Try.prog 127 #[.bool u0] w fun e w' => e = .returned (str (fbit u0)) ∧ Below w.heap.size w w' :=
  (fbit_walk u0  Z w  hZ (fbit_ok u0)).mono fun _ _ ⟨r, he, hk, hb⟩ => ⟨by subst hk; exact he, hb⟩

theorem smost_walk (u0 : Int)  (Z : Fz) (w : World)  (hZ : Z.on w) {K : (Int × Int) → Prop} (hp : smost_vc u0 K) : Calls Try.prog 88 #[i6 u0] w fun e w' => ∃ r : Int × Int, e = .returned (.tuple #[i6 r.1, i6 r.2]) ∧ K r ∧ Below w.heap.size w w' := by
 refine enter0 Try.func88 rfl rfl (by kernel_rfl) ?_; intro p h; have a := Mem.start w Z hZ; have q := Fz.le.refl Z
 refine sqB h a [] [] [] ?_; intro s i; clear h
 refine wp_seq ?_
 refine sqB i a [] [] [(9, .bool ((decide (u0 < 0)) || (decide (u0 > 1000))))] ?_; intro u b; clear i
 refine cd b (t := (decide (u0 < 0)) || (decide (u0 > 1000))) (by kernel_rfl) (fun f => ?_) (fun f => ?_)
 · -- yes
  have j := hp.1 f; clear hp
  refine sqB b a [] [] [(2, i6 0), (3, i6 3)] ?_; intro v k; clear b
  refine wp_ret ?_
  refine thr ?_
  refine ra2 k (.tuple #[i6 0, i6 3]) ?_
  exact ⟨(0, 3), rfl, j, a.below⟩
 · -- no
  have d := hp.2 f; clear hp
  refine wp_skip ?_
  refine thn ?_
  refine wp_seq ?_
  refine sqB b a [] [] [(11, .bool (u0 == 0))] ?_; intro x c; clear b
  refine cd c (t := u0 == 0) (by kernel_rfl) (fun g => ?_) (fun g => ?_)
  · -- yes
   have l := d.1 g; clear d
   refine sqB c a [] [] [(2, i6 0), (3, i6 0)] ?_; intro y m; clear c
   refine wp_ret ?_
   refine thr ?_
   refine ra2 m (.tuple #[i6 0, i6 0]) ?_
   exact ⟨(0, 0), rfl, l, a.below⟩
  · -- no
   have n := d.2 g; clear d
   refine wp_skip ?_
   refine thn ?_
   refine sqB c a [] [] [(2, i6 (w64 (u0 + (w64 ((w64 (u0 - 1)).tdiv 4))))), (3, i6 0)] ?_; intro z o; clear c
   refine wp_ret ?_
   refine ra2 o (.tuple #[i6 (w64 (u0 + (w64 ((w64 (u0 - 1)).tdiv 4)))), i6 0]) ?_
   exact ⟨(w64 (u0 + (w64 ((w64 (u0 - 1)).tdiv 4))), 0), rfl, n, a.below⟩
theorem smost_fun (u0 : Int)  (Z : Fz) (w : World)  (hZ : Z.on w) : Calls Try.prog 88 #[i6 u0] w fun e w' => e = .returned (.tuple #[i6 (smost u0).1, i6 (smost u0).2]) ∧ Below w.heap.size w w' :=
  (smost_walk u0  Z w  hZ (smost_ok u0)).mono fun _ _ ⟨r, he, hk, hb⟩ => ⟨by subst hk; exact he, hb⟩

theorem ckinds_walk   (Z : Fz) (w : World)  (hZ : Z.on w) {K : (Kind × Kind × Kind × Kind × Kind) → Prop} (hp : ckinds_vc  K) : Calls Try.prog 116 #[] w fun e w' => ∃ r : (Kind × Kind × Kind × Kind × Kind), e = .returned (.agg #[i6 r.1.Size, y6 r.1.Poly, y6 r.1.From, y6 r.1.End, i6 r.2.1.Size, y6 r.2.1.Poly, y6 r.2.1.From, y6 r.2.1.End, i6 r.2.2.1.Size, y6 r.2.2.1.Poly, y6 r.2.2.1.From, y6 r.2.2.1.End, i6 r.2.2.2.1.Size, y6 r.2.2.2.1.Poly, y6 r.2.2.2.1.From, y6 r.2.2.2.1.End, i6 r.2.2.2.2.Size, y6 r.2.2.2.2.Poly, y6 r.2.2.2.2.From, y6 r.2.2.2.2.End]) ∧ K r ∧ Below w.heap.size w w' := by
 refine enter0 Try.func116 rfl rfl (by kernel_rfl) ?_; intro q f; have g := Mem.start w Z hZ; have s := Fz.le.refl Z
 refine sqH ?_; intro n h
 refine nw f g pb [i6 0, y6 0, y6 0, y6 0, i6 0, y6 0, y6 0, y6 0, i6 0, y6 0, y6 0, y6 0, i6 0, y6 0, y6 0, y6 0, i6 0, y6 0, y6 0, y6 0] 177 ?_; intro a t u i c; clear f g
 refine nlH (h _ _ ?_); clear h n
 refine sqH ?_; intro o j
 refine bt i c 6 [] [] [(6, .agg #[i6 15, y6 17817, y6 0, y6 0, i6 17, y6 92251, y6 65536, y6 0, i6 21, y6 1058969, y6 1048576, y6 0, i6 8, y6 47, y6 255, y6 255, i6 16, y6 4129, y6 65535, y6 0])] ?_; intro x d; clear i
 refine sx d c 0 [i6 15, y6 17817, y6 0, y6 0, i6 17, y6 92251, y6 65536, y6 0, i6 21, y6 1058969, y6 1048576, y6 0, i6 8, y6 47, y6 255, y6 255, i6 16, y6 4129, y6 65535, y6 0] 0 ?_; intro p l; clear c
 have m : Mem w.heap.size [] w Z [.row a [i6 15, y6 17817, y6 0, y6 0, i6 17, y6 92251, y6 65536, y6 0, i6 21, y6 1058969, y6 1048576, y6 0, i6 8, y6 47, y6 255, y6 255, i6 16, y6 4129, y6 65535, y6 0] 177] Z p := l; clear l
 refine nlH (j _ _ ?_); clear j o
 refine wp_ret ?_
 refine rt (fn := Try.f116) (v := .agg #[i6 15, y6 17817, y6 0, y6 0, i6 17, y6 92251, y6 65536, y6 0, i6 21, y6 1058969, y6 1048576, y6 0, i6 8, y6 47, y6 255, y6 255, i6 16, y6 4129, y6 65535, y6 0]) d (re1c d (fn := Try.f116) rfl (ad := ⟨a, 0, none⟩) (by kernel_rfl) (loadVar_run m 0 (b := a) (k := 20) (vs := [i6 15, y6 17817, y6 0, y6 0, i6 17, y6 92251, y6 65536, y6 0, i6 21, y6 1058969, y6 1048576, y6 0, i6 8, y6 47, y6 255, y6 255, i6 16, y6 4129, y6 65535, y6 0]) (ty := 177) rfl (by kernel_rfl) (by kernel_rfl)) ) ?_
 exact ⟨((⟨15, 17817, 0, 0⟩ : Kind), (⟨17, 92251, 65536, 0⟩ : Kind), (⟨21, 1058969, 1048576, 0⟩ : Kind), (⟨8, 47, 255, 255⟩ : Kind), (⟨16, 4129, 65535, 0⟩ : Kind)), rfl, hp, m.below⟩
theorem ckinds_fun   (Z : Fz) (w : World)  (hZ : Z.on w) : Calls Try.prog 116 #[] w fun e w' => e = .returned (.agg #[i6 ckinds.1.Size, y6 ckinds.1.Poly, y6 ckinds.1.From, y6 ckinds.1.End, i6 ckinds.2.1.Size, y6 ckinds.2.1.Poly, y6 ckinds.2.1.From, y6 ckinds.2.1.End, i6 ckinds.2.2.1.Size, y6 ckinds.2.2.1.Poly, y6 ckinds.2.2.1.From, y6 ckinds.2.2.1.End, i6 ckinds.2.2.2.1.Size, y6 ckinds.2.2.2.1.Poly, y6 ckinds.2.2.2.1.From, y6 ckinds.2.2.2.1.End, i6 ckinds.2.2.2.2.Size, y6 ckinds.2.2.2.2.Poly, y6 ckinds.2.2.2.2.From, y6 ckinds.2.2.2.2.End]) ∧ Below w.heap.size w w' :=
  (ckinds_walk   Z w  hZ (ckinds_ok )).mono fun _ _ ⟨r, he, hk, hb⟩ => ⟨by subst hk; exact he, hb⟩

theorem sindex_walk (u0 : List Int) (u1 : Int) (ao1 : Option Addr) (cap2 : Nat) (Z : Fz) (w : World) (hs3 : SlR t6 Z ao1 cap2 u0) (hZ : Z.on w) {K : Int → Prop} (hp : sindex_vc u0 u1 K) : Calls Try.prog 99 #[.slice ao1 u0.length cap2, i6 u1] w fun e w' => ∃ r : Int, e = .returned (i6 r) ∧ K r ∧ Below w.heap.size w w' := by
 refine enter0 Try.func99 rfl rfl (by kernel_rfl) ?_; intro a0 m; have g := Mem.start w Z hZ; have ad := Fz.le.refl Z
 have G := hp (hs3.small); clear hp
 refine sqB m g [] [] [] ?_; intro a6 n; clear m
 refine wp_seq ?_
 refine sqB n g [] [] [(7, i6 (u0.length : Int)), (8, i6 0)] ?_; intro o p; clear n
 refine wp_block ?_
 have q : Fr 19 [] [⟨0, [], .slice ao1 u0.length cap2⟩, ⟨1, [], i6 u1⟩, ⟨7, [], i6 (u0.length : Int)⟩, ⟨8, [], i6 0⟩] o := p.region (by kernel_rfl) (by kernel_rfl); clear p
 have u : Fr 19 [] [⟨0, [], .slice ao1 u0.length cap2⟩, ⟨1, [], i6 u1⟩, ⟨7, [], i6 (u0.length : Int)⟩, ⟨8, [], i6 0⟩] o := q.region (by kernel_rfl) (by kernel_rfl); clear q
 obtain ⟨H, I, J, L⟩ := G
 refine lp (ι := Int) (fun s => [⟨0, [], .slice ao1 u0.length cap2⟩, ⟨1, [], i6 u1⟩, ⟨7, [], i6 (u0.length : Int)⟩, ⟨8, [], i6 s⟩]) (fun s => []) (fun s => Z) (fun s => H s) (fun s => I s) 0 J (by exact u.region (by kernel_rfl) (by kernel_rfl)) (by exact g) ?_
 rintro a M N O v x
 have y : Fr 19 [] [⟨0, [], .slice ao1 u0.length cap2⟩, ⟨1, [], i6 u1⟩, ⟨7, [], i6 (u0.length : Int)⟩, ⟨8, [], i6 a⟩] N := v; clear v u
 have b : Mem w.heap.size [] w Z [] Z O := x; clear x g
 have h := L a M
 refine sqB y b [] [] [(9, .bool (decide (a < (u0.length : Int))))] ?_; intro ae c; clear y
 refine wp_seq ?_
 refine cd c (t := decide (a < (u0.length : Int))) (by kernel_rfl) (fun j => ?_) (fun j => ?_)
 · -- yes
  have P := h.1 j; clear h
  refine wp_skip ?_
  refine thn ?_
  refine wp_seq ?_
  refine wp_block ?_
  refine sqB c b [] [] [(5, i6 a)] ?_; intro af z; clear c
  refine sqH ?_; intro Q A
  refine bt z b 3 [] [] [(11, i6 u1), (12, .slice ao1 u0.length cap2), (13, i6 a)] ?_; intro ag B; clear z
  obtain ⟨R, C⟩ := P
  refine ix B (T := t6) (xs := u0) hs3 a R (k := .i64) (e := 3) (bytes := 8) (nog rfl _) rfl (by kernel_rfl) rfl (by kernel_rfl) (by kernel_rfl) (by kernel_rfl) ?_; intro ah ai S d aj U V W D; clear B
  have i := C d U; clear C
  obtain rfl : S = ([i6 d] : List Value) := W
  refine z1 D b 15 V 0 (i6 d) rfl ?_; intro ak E; clear D
  refine s1 E 16 (.bool (u1 == d)) ?_; intro al f; clear E
  refine nlH (A _ _ ?_); clear A Q
  refine cd f (t := u1 == d) (by kernel_rfl) (fun l => ?_) (fun l => ?_)
  · -- yes
   have X := i.1 l; clear i
   refine sqB f b [] [] [(4, i6 a)] ?_; intro am Y; clear f
   refine wp_ret ?_
   refine ibr ?_
   refine thr ?_
   refine thr ?_
   refine ibr ?_
   refine thr ?_
   refine ra1 Y (i6 a) ?_
   exact ⟨a, rfl, X, b.below⟩
  · -- no
   have F := i.2 l; clear i
   refine wp_skip ?_
   refine ibn ?_
   refine thn ?_
   refine rgB f b [] [] [(8, i6 (w64 (a + 1)))] ?_; intro an aa; clear f
   refine rd ?_
   exact ⟨w64 (a + 1), F.1, F.2, (aa.region (by kernel_rfl) (by kernel_rfl)).anyβ _ (by kernel_rfl), b.keep (List.Sublist.slnil)⟩
 · -- no
  have ab := h.2 j; clear h
  refine wp_exit ?_
  refine thx ?_
  refine thx ?_
  refine ibx ?_
  refine thn ?_
  refine sqB c b [] [] [(4, i6 (-1))] ?_; intro ao ac; clear c
  refine wp_ret ?_
  refine ra1 ac (i6 (-1)) ?_
  exact ⟨-1, rfl, ab, b.below⟩

theorem scontains_walk (u0 : List Int) (u1 : Int) (ao1 : Option Addr) (cap2 : Nat) (Z : Fz) (w : World) (hs3 : SlR t6 Z ao1 cap2 u0) (hZ : Z.on w) {K : Bool → Prop} (hp : scontains_vc u0 u1 K) : Calls Try.prog 70 #[.slice ao1 u0.length cap2, i6 u1] w fun e w' => ∃ r : Bool, e = .returned (.bool r) ∧ K r ∧ Below w.heap.size w w' := by
 refine enter0 Try.func70 rfl rfl (by kernel_rfl) ?_; intro n c; have a := Mem.start w Z hZ; have o := Fz.le.refl Z
 have j := hp (hs3.small); clear hp
 refine sqB c a [] [] [] ?_; intro p d; clear c
 refine sqH ?_; intro k f
 refine bt d a 2 [] [] [(5, .slice ao1 u0.length cap2), (6, i6 u1)] ?_; intro q g; clear d
 refine ck g 99 #[.slice ao1 u0.length cap2, i6 u1] ?_
 refine (sindex_walk u0 u1 ao1 cap2 _ _ hs3 a.fz j).mono ?_; rintro _ s ⟨b, rfl, l, hb⟩; refine ⟨_, rfl, ?_⟩; intro t h; have i := a.call hb; clear hb a g
 refine bt h i 2 [] [] [(4, .bool (decide (b ≥ 0)))] ?_; intro u m; clear h
 refine nlH (f _ _ ?_); clear f k
 refine wp_ret ?_
 refine ra1 m (.bool (decide (b ≥ 0))) ?_
 exact ⟨decide (b ≥ 0), rfl, l, i.below⟩

theorem fkind_walk (u0 : Frame) (ao1 : Option Addr) (cap2 : Nat) (Z : Fz) (w : World) (hs3 : SlR t8 Z ao1 cap2 u0.Data) (hZ : Z.on w) {K : Int → Prop} (hp : fkind_vc u0 K) : Calls Try.prog 90 #[.agg #[i6 u0.ID, .bool u0.Long, .bool u0.Fast, .bool u0.Remote, i6 u0.Size, .slice ao1 u0.Data.length cap2]] w fun e w' => ∃ r : Int, e = .returned (i6 r) ∧ K r ∧ Below w.heap.size w w' := by
 refine enter0 Try.func90 rfl rfl (by kernel_rfl) ?_; intro x i; have j := Mem.start w Z hZ; have y := Fz.le.refl Z
 have d := hp (hs3.small); clear hp
 refine sqH ?_; intro n k
 refine nw i j pb (e58Dc u0 ao1 cap2) 58 ?_; intro z A B l a; clear i j
 refine s1 l 2 (i6 0) ?_; intro C m; clear l
 refine nlH (k _ _ ?_); clear k n
 refine wp_seq ?_
 refine wp_block ?_
 refine sqB m a [0] [] [(3, .bool (!u0.Fast))] ?_; intro D b; clear m
 refine cd b (t := !u0.Fast) (by kernel_rfl) (fun g => ?_) (fun g => ?_)
 · -- yes
  have o := d.1 g; clear d
  refine sqB b a [] [] [(2, i6 0)] ?_; intro E p; clear b
  refine wp_ret ?_
  refine ibr ?_
  refine thr ?_
  refine ra1 p (i6 0) ?_
  exact ⟨0, rfl, o, a.below⟩
 · -- no
  have f := d.2 g; clear d
  refine sqB b a [0] [] [(7, .bool (decide ((u0.Data.length : Int) ≤ 16)))] ?_; intro F c; clear b
  refine cd c (t := decide ((u0.Data.length : Int) ≤ 16)) (by kernel_rfl) (fun h => ?_) (fun h => ?_)
  · -- yes
   have q := f.1 h; clear f
   refine sqB c a [] [] [(2, i6 1)] ?_; intro G s; clear c
   refine wp_ret ?_
   refine ibr ?_
   refine thr ?_
   refine ra1 s (i6 1) ?_
   exact ⟨1, rfl, q, a.below⟩
  · -- no
   have u := f.2 h; clear f
   refine wp_skip ?_
   refine ibn ?_
   refine thn ?_
   refine sqB c a [] [] [(2, i6 2)] ?_; intro H v; clear c
   refine wp_ret ?_
   refine ra1 v (i6 2) ?_
   exact ⟨2, rfl, u, a.below⟩
theorem fkind_fun (u0 : Frame) (ao1 : Option Addr) (cap2 : Nat) (Z : Fz) (w : World) (hs3 : SlR t8 Z ao1 cap2 u0.Data) (hZ : Z.on w) : Calls Try.prog 90 #[.agg #[i6 u0.ID, .bool u0.Long, .bool u0.Fast, .bool u0.Remote, i6 u0.Size, .slice ao1 u0.Data.length cap2]] w fun e w' => e = .returned (i6 (fkind u0)) ∧ Below w.heap.size w w' :=
  (fkind_walk u0 ao1 cap2 Z w hs3 hZ (fkind_ok u0)).mono fun _ _ ⟨r, he, hk, hb⟩ => ⟨by subst hk; exact he, hb⟩

theorem fname_walk (u0 : Frame) (ao1 : Option Addr) (cap2 : Nat) (Z : Fz) (w : World) (hs3 : SlR t8 Z ao1 cap2 u0.Data) (hZ : Z.on w) {K : (List UInt8) → Prop} (hp : fname_vc u0 K) : Calls Try.prog 113 #[.agg #[i6 u0.ID, .bool u0.Long, .bool u0.Fast, .bool u0.Remote, i6 u0.Size, .slice ao1 u0.Data.length cap2]] w fun e w' => ∃ r : (List UInt8), e = .returned (str r) ∧ K r ∧ Below w.heap.size w w' := by
 refine enter0 Try.func113 rfl rfl (by kernel_rfl) ?_; intro a0 u; have v := Mem.start w Z hZ; have aw := Fz.le.refl Z
 have f := hp (hs3.small); clear hp
 refine sqH ?_; intro U x
 refine nw u v pb (e58Dc u0 ao1 cap2) 58 ?_; intro a a7 ax y c; clear u v
 refine s1 y 2 (str []) ?_; intro ay z; clear y
 refine nlH (x _ _ ?_); clear x U
 refine wp_seq ?_
 refine sqB z c [0] [] [(5, .bool (!u0.Long))] ?_; intro A d; clear z
 refine cd d (t := !u0.Long) (by kernel_rfl) (fun h => ?_) (fun h => ?_)
 · -- yes
  have V := f.1 h; clear f
  have B : Fr 30 [] [⟨1, [], pt a 0⟩] A := d.region (by kernel_rfl) (by kernel_rfl); clear d
  refine sqQH mixed (by kernel_rfl) c ?_; intro W C
  refine q1 B 6 (pt a 0) ?_; intro az i; clear B
  refine qst i (i6 u0.ID) (nog rfl _) rfl (by kernel_rfl) (fun v27 hC => ld i hC 0 (g := []) (b := a) (off := 0) (cs := (e58Dc u0 ao1 cap2)) (ty := 58) rfl (by kernel_rfl) (by kernel_rfl) (by kernel_rfl) (by kernel_rfl) rfl) ?_; intro aA D; clear i
  refine q1 D 8 (y6 (wu64 u0.ID)) ?_; intro aB E; clear D
  obtain ⟨X, Y⟩ := V
  refine qcl E (str (bwriteS (wu64 u0.ID) 11)) 115 #[y6 (wu64 u0.ID), i6 11] (nog rfl _) rfl (by kernel_rfl) (fun _ => by kernel_rfl) (qfc fun w hC => bwrite_fun (wu64 u0.ID) 11 X _ _ hC.fz) ?_; intro aC F; clear E
  refine q1 F 10 (pt a 3) ?_; intro aD j; clear F
  refine qst j (.bool u0.Remote) (nog rfl _) rfl (by kernel_rfl) (fun v41 hC => ld j hC 0 (g := []) (b := a) (off := 3) (cs := (e58Dc u0 ao1 cap2)) (ty := 58) rfl (by kernel_rfl) (by kernel_rfl) (by kernel_rfl) (by kernel_rfl) rfl) ?_; intro aE G; clear j
  refine qcl G (str (fbit u0.Remote)) 127 #[.bool u0.Remote] (nog rfl _) rfl (by kernel_rfl) (fun _ => by kernel_rfl) (qfc fun w hC => fbit_fun u0.Remote _ _ hC.fz) ?_; intro aF k; clear G
  obtain ⟨aa, ab⟩ := Y
  refine qst k (str ((bwriteS (wu64 u0.ID) 11) ++ (fbit u0.Remote))) (nog rfl _) rfl (by kernel_rfl) (fun v47 hC => stradd_run k (g := []) rfl (by kernel_rfl) (by kernel_rfl) aa rfl) ?_; intro aG l; clear k
  obtain ⟨ac, ad⟩ := ab
  refine qst l (str (((bwriteS (wu64 u0.ID) 11) ++ (fbit u0.Remote)) ++ ([48] : List UInt8))) (nog rfl _) rfl (by kernel_rfl) (fun v52 hC => stradd_run l (g := []) rfl (by kernel_rfl) (by kernel_rfl) ac rfl) ?_; intro aH H; clear l
  refine q1 H 2 (str (((bwriteS (wu64 u0.ID) 11) ++ (fbit u0.Remote)) ++ ([48] : List UInt8))) ?_; intro aI ae; clear H
  refine qnl (C _ ?_); clear C W; intro aJ af; clear c
  refine wp_ret ?_
  refine thr ?_
  refine ra1 ae (str (((bwriteS (wu64 u0.ID) 11) ++ (fbit u0.Remote)) ++ ([48] : List UInt8))) ?_
  exact ⟨((bwriteS (wu64 u0.ID) 11) ++ (fbit u0.Remote)) ++ ([48] : List UInt8), rfl, ad, af.below⟩
 · -- no
  have ag := f.2 h; clear f
  refine wp_skip ?_
  refine thn ?_
  have I : Fr 30 [] [⟨1, [], pt a 0⟩] A := d.region (by kernel_rfl) (by kernel_rfl); clear d
  refine sqQH mixed (by kernel_rfl) c ?_; intro ah J
  refine q1 I 15 (pt a 0) ?_; intro aK m; clear I
  refine qst m (i6 u0.ID) (nog rfl _) rfl (by kernel_rfl) (fun v68 hC => ld m hC 0 (g := []) (b := a) (off := 0) (cs := (e58Dc u0 ao1 cap2)) (ty := 58) rfl (by kernel_rfl) (by kernel_rfl) (by kernel_rfl) (by kernel_rfl) rfl) ?_; intro aL L; clear m
  refine q1 L 17 (i6 (bShr .i64 u0.ID 18)) ?_; intro aM M; clear L
  refine q1 M 18 (y6 (wu64 (bShr .i64 u0.ID 18))) ?_; intro aN N; clear M
  obtain ⟨ai, aj⟩ := ag
  refine qcl N (str (bwriteS (wu64 (bShr .i64 u0.ID 18)) 11)) 115 #[y6 (wu64 (bShr .i64 u0.ID 18)), i6 11] (nog rfl _) rfl (by kernel_rfl) (fun _ => by kernel_rfl) (qfc fun w hC => bwrite_fun (wu64 (bShr .i64 u0.ID 18)) 11 ai _ _ hC.fz) ?_; intro aO n; clear N
  obtain ⟨ak, al⟩ := aj
  refine qst n (str ((bwriteS (wu64 (bShr .i64 u0.ID 18)) 11) ++ ([49, 49] : List UInt8))) (nog rfl _) rfl (by kernel_rfl) (fun v82 hC => stradd_run n (g := []) rfl (by kernel_rfl) (by kernel_rfl) ak rfl) ?_; intro aP O; clear n
  refine q1 O 21 (pt a 0) ?_; intro aQ o; clear O
  refine qst o (i6 u0.ID) (nog rfl _) rfl (by kernel_rfl) (fun v90 hC => ld o hC 0 (g := []) (b := a) (off := 0) (cs := (e58Dc u0 ao1 cap2)) (ty := 58) rfl (by kernel_rfl) (by kernel_rfl) (by kernel_rfl) (by kernel_rfl) rfl) ?_; intro aR P; clear o
  refine q1 P 23 (y6 (wu64 u0.ID)) ?_; intro aS Q; clear P
  obtain ⟨am, an⟩ := al
  refine qcl Q (str (bwriteS (wu64 u0.ID) 18)) 115 #[y6 (wu64 u0.ID), i6 18] (nog rfl _) rfl (by kernel_rfl) (fun _ => by kernel_rfl) (qfc fun w hC => bwrite_fun (wu64 u0.ID) 18 am _ _ hC.fz) ?_; intro aT p; clear Q
  obtain ⟨ao, ap⟩ := an
  refine qst p (str (((bwriteS (wu64 (bShr .i64 u0.ID 18)) 11) ++ ([49, 49] : List UInt8)) ++ (bwriteS (wu64 u0.ID) 18))) (nog rfl _) rfl (by kernel_rfl) (fun v101 hC => stradd_run p (g := []) rfl (by kernel_rfl) (by kernel_rfl) ao rfl) ?_; intro aU R; clear p
  refine q1 R 26 (pt a 3) ?_; intro aV q; clear R
  refine qst q (.bool u0.Remote) (nog rfl _) rfl (by kernel_rfl) (fun v109 hC => ld q hC 0 (g := []) (b := a) (off := 3) (cs := (e58Dc u0 ao1 cap2)) (ty := 58) rfl (by kernel_rfl) (by kernel_rfl) (by kernel_rfl) (by kernel_rfl) rfl) ?_; intro aW S; clear q
  refine qcl S (str (fbit u0.Remote)) 127 #[.bool u0.Remote] (nog rfl _) rfl (by kernel_rfl) (fun _ => by kernel_rfl) (qfc fun w hC => fbit_fun u0.Remote _ _ hC.fz) ?_; intro aX s; clear S
  obtain ⟨aq, ar⟩ := ap
  refine qst s (str ((((bwriteS (wu64 (bShr .i64 u0.ID 18)) 11) ++ ([49, 49] : List UInt8)) ++ (bwriteS (wu64 u0.ID) 18)) ++ (fbit u0.Remote))) (nog rfl _) rfl (by kernel_rfl) (fun v115 hC => stradd_run s (g := []) rfl (by kernel_rfl) (by kernel_rfl) aq rfl) ?_; intro aY T; clear s
  refine q1 T 2 (str ((((bwriteS (wu64 (bShr .i64 u0.ID 18)) 11) ++ ([49, 49] : List UInt8)) ++ (bwriteS (wu64 u0.ID) 18)) ++ (fbit u0.Remote))) ?_; intro aZ au; clear T
  refine qnl (J _ ?_); clear J ah; intro a1 av; clear c
  refine wp_ret ?_
  refine ra1 au (str ((((bwriteS (wu64 (bShr .i64 u0.ID 18)) 11) ++ ([49, 49] : List UInt8)) ++ (bwriteS (wu64 u0.ID) 18)) ++ (fbit u0.Remote))) ?_
  exact ⟨(((bwriteS (wu64 (bShr .i64 u0.ID 18)) 11) ++ ([49, 49] : List UInt8)) ++ (bwriteS (wu64 u0.ID) 18)) ++ (fbit u0.Remote), rfl, ar, av.below⟩

theorem dasks_walk (u0 : Task) (u1 : Int) (u2 : Bool)  (Z : Fz) (w : World)  (hZ : Z.on w) {K : Int → Prop} (hp : dasks_vc u0 u1 u2 K) : Calls Try.prog 84 #[.agg #[i6 u0.ID, i6 u0.Bytes, i6 u0.Every, i6 u0.Late, i6 u0.Jitter], i6 u1, .bool u2] w fun e w' => ∃ r : Int, e = .returned (i6 r) ∧ K r ∧ Below w.heap.size w w' := by
 refine enter0 Try.func84 rfl rfl (by kernel_rfl) ?_; intro F h; have i := Mem.start w Z hZ; have G := Fz.le.refl Z
 refine sqH ?_; intro s j
 refine nw h i pb (e34Dc u0) 34 ?_; intro H I J k a; clear h i
 refine s1 k 6 (i6 0) ?_; intro L l; clear k
 refine nlH (j _ _ ?_); clear j s
 refine sqB l a [0] [] [(7, i6 (w64 (u1 + u0.Jitter)))] ?_; intro M m; clear l
 refine wp_seq ?_
 refine sqB m a [] [] [(12, .bool u2)] ?_; intro N b; clear m
 refine cd b (t := u2) (by kernel_rfl) (fun c => ?_) (fun c => ?_)
 · -- yes
  have u := hp.1 c; clear hp
  refine sqH ?_; intro v n
  refine bt b a 3 [0] [] [(13, i6 (w64 (u1 + u0.Jitter))), (15, i6 u0.Every)] ?_; intro O d; clear b
  obtain ⟨x, y⟩ := u
  refine st d (i6 (w64 ((w64 (u1 + u0.Jitter)).tdiv u0.Every))) (nog rfl _) rfl (by kernel_rfl) (quo_run d (g := []) rfl (by kernel_rfl) (by kernel_rfl) x rfl) ?_; intro P o; clear d
  refine bt o a 2 [] [] [(6, i6 (w64 ((w64 ((w64 (u1 + u0.Jitter)).tdiv u0.Every)) + 1)))] ?_; intro Q z; clear o
  refine nlH (n _ _ ?_); clear n v
  refine wp_ret ?_
  refine thr ?_
  refine ra1 z (i6 (w64 ((w64 ((w64 (u1 + u0.Jitter)).tdiv u0.Every)) + 1))) ?_
  exact ⟨w64 ((w64 ((w64 (u1 + u0.Jitter)).tdiv u0.Every)) + 1), rfl, y, a.below⟩
 · -- no
  have A := hp.2 c; clear hp
  refine wp_skip ?_
  refine thn ?_
  refine sqH ?_; intro B p
  refine bt b a 7 [0, 0] [] [(22, i6 (w64 ((w64 ((w64 (u1 + u0.Jitter)) + u0.Every)) - 1))), (24, i6 u0.Every)] ?_; intro R f; clear b
  obtain ⟨C, D⟩ := A
  refine st f (i6 (w64 ((w64 ((w64 ((w64 (u1 + u0.Jitter)) + u0.Every)) - 1)).tdiv u0.Every))) (nog rfl _) rfl (by kernel_rfl) (quo_run f (g := []) rfl (by kernel_rfl) (by kernel_rfl) C rfl) ?_; intro S q; clear f
  refine s1 q 6 (i6 (w64 ((w64 ((w64 ((w64 (u1 + u0.Jitter)) + u0.Every)) - 1)).tdiv u0.Every))) ?_; intro T E; clear q
  refine nlH (p _ _ ?_); clear p B
  refine wp_ret ?_
  refine ra1 E (i6 (w64 ((w64 ((w64 ((w64 (u1 + u0.Jitter)) + u0.Every)) - 1)).tdiv u0.Every))) ?_
  exact ⟨w64 ((w64 ((w64 ((w64 (u1 + u0.Jitter)) + u0.Every)) - 1)).tdiv u0.Every), rfl, D, a.below⟩

theorem dcheck_walk (u0 : List Task) (ao1 : Option Addr) (cap2 : Nat) (Z : Fz) (w : World) (hs3 : SlR tyTask Z ao1 cap2 u0) (hZ : Z.on w) {K : Int → Prop} (hp : dcheck_vc u0 K) : Calls Try.prog 47 #[.slice ao1 u0.length cap2] w fun e w' => ∃ r : Int, e = .returned (i6 r) ∧ K r ∧ Below w.heap.size w w' := by
 refine enter0 Try.func47 rfl rfl (by kernel_rfl) ?_; intro a0 z; have c := Mem.start w Z hZ; have aw := Fz.le.refl Z
 have l := hp (hs3.small); clear hp
 refine sqB z c [] [] [] ?_; intro a6 A; clear z
 refine wp_seq ?_
 refine sqB A c [] [] [(8, .bool (decide ((u0.length : Int) > 20)))] ?_; intro ax g; clear A
 refine cd g (t := decide ((u0.length : Int) > 20)) (by kernel_rfl) (fun q => ?_) (fun q => ?_)
 · -- yes
  have S := l.1 q; clear l
  refine sqB g c [] [] [(2, i6 2)] ?_; intro ay U; clear g
  refine wp_ret ?_
  refine thr ?_
  refine ra1 U (i6 2) ?_
  exact ⟨2, rfl, S, c.below⟩
 · -- no
  have V := l.2 q; clear l
  refine wp_skip ?_
  refine thn ?_
  refine sqB g c [] [] [(3, i6 (-1))] ?_; intro az B; clear g
  refine wp_seq ?_
  refine sqB B c [] [] [(9, .slice ao1 u0.length cap2), (10, i6 (u0.length : Int)), (11, i6 0)] ?_; intro C D; clear B
  refine wp_block ?_
  have E : Fr 72 [] [⟨3, [], i6 (-1)⟩, ⟨9, [], .slice ao1 u0.length cap2⟩, ⟨10, [], i6 (u0.length : Int)⟩, ⟨11, [], i6 0⟩] C := D.region (by kernel_rfl) (by kernel_rfl); clear D
  have F : Fr 72 [] [⟨3, [], i6 (-1)⟩, ⟨9, [], .slice ao1 u0.length cap2⟩, ⟨10, [], i6 (u0.length : Int)⟩, ⟨11, [], i6 0⟩] C := E.region (by kernel_rfl) (by kernel_rfl); clear E
  obtain ⟨W, X, Y, aa⟩ := V
  refine lp (ι := Int × Int) (fun s => [⟨3, [], i6 s.1⟩, ⟨9, [], .slice ao1 u0.length cap2⟩, ⟨10, [], i6 (u0.length : Int)⟩, ⟨11, [], i6 s.2⟩]) (fun s => []) (fun s => Z) (fun s => W s.1 s.2) (fun s => X s.1 s.2) ⟨-1, 0⟩ Y (by exact F.region (by kernel_rfl) (by kernel_rfl)) (by exact c) ?_
  rintro ⟨m, d⟩ ab ac ad G H
  have I : Fr 72 [] [⟨3, [], i6 m⟩, ⟨9, [], .slice ao1 u0.length cap2⟩, ⟨10, [], i6 (u0.length : Int)⟩, ⟨11, [], i6 d⟩] ac := G; clear G F
  have f : Mem w.heap.size [] w Z [] Z ad := H; clear H c
  have n := aa m d ab
  refine sqB I f [] [] [(12, .bool (decide (d < (u0.length : Int))))] ?_; intro aA h; clear I
  refine wp_seq ?_
  refine cd h (t := decide (d < (u0.length : Int))) (by kernel_rfl) (fun u => ?_) (fun u => ?_)
  · -- yes
   have ae := n.1 u; clear n
   refine wp_skip ?_
   refine thn ?_
   refine wp_seq ?_
   refine wp_block ?_
   refine sqH ?_; intro af J
   obtain ⟨ag, L⟩ := ae
   refine ix h (T := tyTask) (xs := u0) hs3 d ag (k := .i64) (e := 34) (bytes := 40) (nog rfl _) rfl (by kernel_rfl) rfl (by kernel_rfl) (by kernel_rfl) (by kernel_rfl) ?_; intro aB aC ah a aD ai aj ak M; clear h
   have o := L a ai; clear L
   obtain rfl : ah = ((e34Dc a) : List Value) := ak
   refine z2 M f 14 aj 0 5 (e34Dc a) rfl ?_; intro aE N; clear M
   refine nw N f pb [i6 0, i6 0, i6 0, i6 0, i6 0] 34 ?_; intro al aF aG v O; clear N f
   refine sx v O 0 (e34Dc a) 0 ?_; intro am P; clear O
   have b : Mem w.heap.size [] w Z [.row al (e34Dc a) 34] Z am := P; clear P
   refine nlH (J _ _ ?_); clear J af
   refine wp_seq ?_
   refine sqB v b [0, 0, 0, 0, 0, 0, 0, 0, 0, 0, 0] [] [(64, .bool ((((((((((decide (a.ID < 0)) || (decide (a.ID > 2047))) || (decide (a.Every < 1))) || (decide (a.Every > 1000000))) || (decide (a.Late < 0))) || (decide (a.Late > 1000000))) || (decide (a.Jitter < 0))) || (decide (a.Jitter ≥ a.Every))) || (decide (a.Bytes < 0))) || (decide (a.Bytes > 8))))] ?_; intro aH i; clear v
   refine cd i (t := (((((((((decide (a.ID < 0)) || (decide (a.ID > 2047))) || (decide (a.Every < 1))) || (decide (a.Every > 1000000))) || (decide (a.Late < 0))) || (decide (a.Late > 1000000))) || (decide (a.Jitter < 0))) || (decide (a.Jitter ≥ a.Every))) || (decide (a.Bytes < 0))) || (decide (a.Bytes > 8))) (by kernel_rfl) (fun x => ?_) (fun x => ?_)
   · -- yes
    have an := o.1 x; clear o
    refine sqB i b [] [] [(2, i6 3)] ?_; intro aI ao; clear i
    refine wp_ret ?_
    refine thr ?_
    refine ibr ?_
    refine thr ?_
    refine thr ?_
    refine ibr ?_
    refine thr ?_
    refine ra1 ao (i6 3) ?_
    exact ⟨3, rfl, an, b.below⟩
   · -- no
    have p := o.2 x; clear o
    refine wp_skip ?_
    refine thn ?_
    refine wp_seq ?_
    refine sqB i b [0] [] [(68, .bool (decide (a.ID ≤ m)))] ?_; intro aJ j; clear i
    refine cd j (t := decide (a.ID ≤ m)) (by kernel_rfl) (fun y => ?_) (fun y => ?_)
    · -- yes
     have ap := p.1 y; clear p
     refine sqB j b [] [] [(2, i6 4)] ?_; intro aK aq; clear j
     refine wp_ret ?_
     refine thr ?_
     refine ibr ?_
     refine thr ?_
     refine thr ?_
     refine ibr ?_
     refine thr ?_
     refine ra1 aq (i6 4) ?_
     exact ⟨4, rfl, ap, b.below⟩
    · -- no
     have Q := p.2 y; clear p
     refine wp_skip ?_
     refine thn ?_
     refine rgB j b [0] [] [(3, i6 a.ID)] ?_; intro aL R; clear j
     refine ibn ?_
     refine thn ?_
     refine rgB R b [] [] [(11, i6 (w64 (d + 1)))] ?_; intro aM ar; clear R
     refine rd ?_
     exact ⟨⟨a.ID, w64 (d + 1)⟩, Q.1, Q.2, (ar.region (by kernel_rfl) (by kernel_rfl)).anyβ _ (by kernel_rfl), b.keep (List.Sublist.cons _ (List.Sublist.slnil))⟩
  · -- no
   have au := n.2 u; clear n
   refine wp_exit ?_
   refine thx ?_
   refine thx ?_
   refine ibx ?_
   refine thn ?_
   refine sqB h f [] [] [(2, i6 0)] ?_; intro aN av; clear h
   refine wp_ret ?_
   refine ra1 av (i6 0) ?_
   exact ⟨0, rfl, au, f.below⟩

end Go.Proofs.Ytginlmgkimfjmaa
set_option linter.unusedVariables false
set_option linter.unusedSimpArgs false
set_option maxRecDepth 100000
set_option maxHeartbeats 0
namespace Go.Proofs.Ytginlmgkimfjmaa
open Go.Sy Go.RowKit
abbrev e58Dd (X : Frame) (A0 : Option Addr) (C0 : Nat) : List Value := [i6 X.ID, .bool X.Long, .bool X.Fast, .bool X.Remote, i6 X.Size, .slice A0 X.Data.length C0]
theorem scontains_fun (u0 : List Int) (u1 : Int) (ao1 : Option Addr) (cap2 : Nat) (Z : Fz) (w : World) (hs3 : SlR t6 Z ao1 cap2 u0) (hZ : Z.on w) : Calls Try.prog 70 #[.slice ao1 u0.length cap2, i6 u1] w fun e w' => e = .returned (.bool (scontainsS u0 u1)) ∧ Below w.heap.size w w' :=
  (scontains_walk u0 u1 ao1 cap2 Z w hs3 hZ (scontains_ok u0 u1)).mono fun _ _ ⟨r, he, hk, hb⟩ => ⟨by subst hk; exact he, hb⟩

theorem sindex_fun (u0 : List Int) (u1 : Int) (ao1 : Option Addr) (cap2 : Nat) (Z : Fz) (w : World) (hs3 : SlR t6 Z ao1 cap2 u0) (hZ : Z.on w) : Calls Try.prog 99 #[.slice ao1 u0.length cap2, i6 u1] w fun e w' => e = .returned (i6 (sindexS u0 u1)) ∧ Below w.heap.size w w' :=
  (sindex_walk u0 u1 ao1 cap2 Z w hs3 hZ (sindex_ok2 u0 u1)).mono fun _ _ ⟨r, he, hk, hb⟩ => ⟨by subst hk; exact he, hb⟩

theorem fname_fun (u0 : Frame) (hpre : 0 ≤ u0.ID ∧ u0.ID ≤ 536870911) (ao1 : Option Addr) (cap2 : Nat) (Z : Fz) (w : World) (hs3 : SlR t8 Z ao1 cap2 u0.Data) (hZ : Z.on w) : Calls Try.prog 113 #[.agg #[i6 u0.ID, .bool u0.Long, .bool u0.Fast, .bool u0.Remote, i6 u0.Size, .slice ao1 u0.Data.length cap2]] w fun e w' => e = .returned (str (fnameS u0)) ∧ Below w.heap.size w w' :=
  (fname_walk u0 ao1 cap2 Z w hs3 hZ (fname_ok u0 hpre)).mono fun _ _ ⟨r, he, hk, hb⟩ => ⟨by subst hk; exact he, hb⟩

theorem dasks_fun (u0 : Task) (u1 : Int) (u2 : Bool) (hpre : u0.Every ≠ 0)  (Z : Fz) (w : World)  (hZ : Z.on w) : Calls Try.prog 84 #[.agg #[i6 u0.ID, i6 u0.Bytes, i6 u0.Every, i6 u0.Late, i6 u0.Jitter], i6 u1, .bool u2] w fun e w' => e = .returned (i6 (dasksS u0 u1 u2)) ∧ Below w.heap.size w w' :=
  (dasks_walk u0 u1 u2  Z w  hZ (dasks_ok u0 u1 u2 hpre)).mono fun _ _ ⟨r, he, hk, hb⟩ => ⟨by subst hk; exact he, hb⟩

theorem dcheck_fun (u0 : List Task) (ao1 : Option Addr) (cap2 : Nat) (Z : Fz) (w : World) (hs3 : SlR tyTask Z ao1 cap2 u0) (hZ : Z.on w) : Calls Try.prog 47 #[.slice ao1 u0.length cap2] w fun e w' => e = .returned (i6 (dcheckS u0)) ∧ Below w.heap.size w w' :=
  (dcheck_walk u0 ao1 cap2 Z w hs3 hZ (dcheck_ok u0)).mono fun _ _ ⟨r, he, hk, hb⟩ => ⟨by subst hk; exact he, hb⟩

theorem fcheckfr_walk (u0 : Frame) (ao1 : Option Addr) (cap2 : Nat) (Z : Fz) (w : World) (hs3 : SlR t8 Z ao1 cap2 u0.Data) (hZ : Z.on w) {K : Int → Prop} (hp : fcheckfr_vc u0 K) : Calls Try.prog 58 #[.agg #[i6 u0.ID, .bool u0.Long, .bool u0.Fast, .bool u0.Remote, i6 u0.Size, .slice ao1 u0.Data.length cap2]] w fun e w' => ∃ r : Int, e = .returned (i6 r) ∧ K r ∧ Below w.heap.size w w' := by
 refine enter0 Try.func58 rfl rfl (by kernel_rfl) ?_; intro a0 C; have D := Mem.start w Z hZ; have j := Fz.le.refl Z
 have k := hp (hs3.small); clear hp
 refine sqH ?_; intro V E
 refine nw C D pb (e58Dd u0 ao1 cap2) 58 ?_; intro l a7 aq F a; clear C D
 refine s1 F 2 (i6 0) ?_; intro ar G; clear F
 refine nlH (E _ _ ?_); clear E V
 refine wp_seq ?_
 refine wp_block ?_
 refine sqB G a [0, 0, 0, 0] [] [(3, .bool (((decide (u0.ID < 0)) || ((!u0.Long) && (decide (u0.ID > 2047)))) || (decide (u0.ID > 536870911))))] ?_; intro au c; clear G
 refine cd c (t := ((decide (u0.ID < 0)) || ((!u0.Long) && (decide (u0.ID > 2047)))) || (decide (u0.ID > 536870911))) (by kernel_rfl) (fun q => ?_) (fun q => ?_)
 · -- yes
  have W := k.1 q; clear k
  refine sqB c a [] [] [(2, i6 3)] ?_; intro av X; clear c
  refine wp_ret ?_
  refine ibr ?_
  refine thr ?_
  refine ra1 X (i6 3) ?_
  exact ⟨3, rfl, W, a.below⟩
 · -- no
  have m := k.2 q; clear k
  refine sqB c a [0, 0, 0] [] [(22, .bool (u0.Remote && (u0.Fast || (decide ((u0.Data.length : Int) > 0)))))] ?_; intro aw d; clear c
  refine cd d (t := u0.Remote && (u0.Fast || (decide ((u0.Data.length : Int) > 0)))) (by kernel_rfl) (fun s => ?_) (fun s => ?_)
  · -- yes
   have Y := m.1 s; clear m
   refine sqB d a [] [] [(2, i6 4)] ?_; intro ax aa; clear d
   refine wp_ret ?_
   refine ibr ?_
   refine thr ?_
   refine ra1 aa (i6 4) ?_
   exact ⟨4, rfl, Y, a.below⟩
  · -- no
   have n := m.2 s; clear m
   refine sqB d a [0, 0, 0, 0] [] [(35, .bool (((decide (u0.Size < 0)) || (decide (u0.Size > 8))) || ((!u0.Remote) && (u0.Size != 0))))] ?_; intro ay f; clear d
   refine cd f (t := ((decide (u0.Size < 0)) || (decide (u0.Size > 8))) || ((!u0.Remote) && (u0.Size != 0))) (by kernel_rfl) (fun u => ?_) (fun u => ?_)
   · -- yes
    have ab := n.1 u; clear n
    refine sqB f a [] [] [(2, i6 3)] ?_; intro az ac; clear f
    refine wp_ret ?_
    refine ibr ?_
    refine thr ?_
    refine ra1 ac (i6 3) ?_
    exact ⟨3, rfl, ab, a.below⟩
   · -- no
    have o := n.2 u; clear n
    refine sqB f a [0, 0, 0] [] [(54, .bool ((decide ((u0.Data.length : Int) > 64)) || ((!u0.Fast) && (decide ((u0.Data.length : Int) > 8)))))] ?_; intro ad g; clear f
    refine cd g (t := (decide ((u0.Data.length : Int) > 64)) || ((!u0.Fast) && (decide ((u0.Data.length : Int) > 8)))) (by kernel_rfl) (fun v => ?_) (fun v => ?_)
    · -- yes
     have ae := o.1 v; clear o
     refine sqB g a [] [] [(2, i6 2)] ?_; intro aA af; clear g
     refine wp_ret ?_
     refine ibr ?_
     refine thr ?_
     refine ra1 af (i6 2) ?_
     exact ⟨2, rfl, ae, a.below⟩
    · -- no
     have p := o.2 v; clear o
     have H : Fr 77 [] [⟨1, [], pt l 0⟩] ad := g.region (by kernel_rfl) (by kernel_rfl); clear g
     refine wp_seq (rgS mixed a [(1, true), (2, true), (3, true), (0, false), (4, false), (5, true), (6, true)] [] [0] [.row l (e58Dd u0 ao1 cap2) 58] ?_)
     intro ag I aB x; clear a
     have b := Fz.le.refl Z
     refine cS H 3 [0] [] [(74, i6 (u0.Data.length : Int))] ?_; intro aC J; clear H
     refine eS rfl ?_; intro ah L
     refine ck J 91 #[] ?_
     refine (fsizes_fun  _ _ x.fz).mono ?_; rintro _ M ⟨N, O, ai, rfl, hm⟩; refine ⟨_, rfl, ?_⟩; intro aD P; have Q := x.callZ hm; have y := hm.ext.le; clear hm x J
     replace hs3 := hs3.mono y
     replace b := b.mono y
     replace j := Fz.le.trans j y
     have R : Mem w.heap.size [] w Z [.own t6 3 N O fsizes, .row l (e58Dd u0 ao1 cap2) 58] ai M := Q; clear Q
     refine nl (qnI (L _ _ (R.cst b [1]) ?_)); clear L ah
     refine eS rfl ?_; intro aj S
     obtain ⟨ak, z, T, al⟩ := R.freeze 0 rfl
     replace hs3 := hs3.mono z
     replace b := b.mono z
     replace j := Fz.le.trans j z
     have A : Mem w.heap.size [] w Z [.row l (e58Dd u0 ao1 cap2) 58] ak M := T; clear T
     refine fc P A (scontains_fun fsizes (u0.Data.length : Int) N O _ _ al A.fz) ?_; intro aE aF U h; clear P A
     refine nl (qnI (S _ _ (h.cst b [0]) ?_)); clear S aj
     refine cS U 2 [] [] [(70, .bool (!(scontainsS fsizes (u0.Data.length : Int))))] ?_; intro aG i; clear U
     refine nS (I _ _ ?_); clear I ag
     refine thn ?_
     refine cd i (t := !(scontainsS fsizes (u0.Data.length : Int))) (by kernel_rfl) (fun B => ?_) (fun B => ?_)
     · -- yes
      have am := p.1 B; clear p
      refine sqB i h [] [] [(2, i6 4)] ?_; intro aH an; clear i
      refine wp_ret ?_
      refine ibr ?_
      refine thr ?_
      refine ra1 an (i6 4) ?_
      exact ⟨4, rfl, am, h.below⟩
     · -- no
      have ao := p.2 B; clear p
      refine wp_skip ?_
      refine ibn ?_
      refine thn ?_
      refine sqB i h [] [] [(2, i6 0)] ?_; intro aI ap; clear i
      refine wp_ret ?_
      refine ra1 ap (i6 0) ?_
      exact ⟨0, rfl, ao, h.below⟩
theorem fcheckfr_fun (u0 : Frame) (ao1 : Option Addr) (cap2 : Nat) (Z : Fz) (w : World) (hs3 : SlR t8 Z ao1 cap2 u0.Data) (hZ : Z.on w) : Calls Try.prog 58 #[.agg #[i6 u0.ID, .bool u0.Long, .bool u0.Fast, .bool u0.Remote, i6 u0.Size, .slice ao1 u0.Data.length cap2]] w fun e w' => e = .returned (i6 (fcheckfr u0)) ∧ Below w.heap.size w w' :=
  (fcheckfr_walk u0 ao1 cap2 Z w hs3 hZ (fcheckfr_ok u0)).mono fun _ _ ⟨r, he, hk, hb⟩ => ⟨by subst hk; exact he, hb⟩

theorem csize_walk (u0 : Int)  (Z : Fz) (w : World)  (hZ : Z.on w) {K : (Int × Int) → Prop} (hp : csize_vc u0 K) : Calls Try.prog 89 #[i6 u0] w fun e w' => ∃ r : Int × Int, e = .returned (.tuple #[i6 r.1, i6 r.2]) ∧ K r ∧ Below w.heap.size w w' := by
 refine enter0 Try.func89 rfl rfl (by kernel_rfl) ?_; intro P j; have d := Mem.start w Z hZ; have Q := Fz.le.refl Z
 refine sqB j d [] [] [] ?_; intro R k; clear j
 refine wp_seq ?_
 refine sqH ?_; intro G l
 refine s1 k 4 (i6 u0) ?_; intro S n; clear k
 refine s1 n 5 (.bool (decide (u0 < 0))) ?_; intro T o; clear n
 refine s1 o 6 (.bool (decide (u0 < 0))) ?_; intro U p; clear o
 have q := p.atom ((decide (u0 < 0)) == false) (by kernel_rfl); clear p
 refine gp q 7 0 [] (decide (u0 < 0)) (i6 u0) rfl rfl ?_; intro V s; clear q
 refine gcl s d (.agg #[i6 ckinds.1.Size, y6 ckinds.1.Poly, y6 ckinds.1.From, y6 ckinds.1.End, i6 ckinds.2.1.Size, y6 ckinds.2.1.Poly, y6 ckinds.2.1.From, y6 ckinds.2.1.End, i6 ckinds.2.2.1.Size, y6 ckinds.2.2.1.Poly, y6 ckinds.2.2.1.From, y6 ckinds.2.2.1.End, i6 ckinds.2.2.2.1.Size, y6 ckinds.2.2.2.1.Poly, y6 ckinds.2.2.2.1.From, y6 ckinds.2.2.2.1.End, i6 ckinds.2.2.2.2.Size, y6 ckinds.2.2.2.2.Poly, y6 ckinds.2.2.2.2.From, y6 ckinds.2.2.2.2.End]) 116 #[] (m := 0) (cj := []) (bj := decide (u0 < 0)) rfl rfl (by kernel_rfl) rfl (by kernel_rfl) (by kernel_rfl) (by kernel_rfl) (fun _ => by kernel_rfl) (fun hg => ckinds_fun  _ _ d.fz) ?_; intro W X u a; clear s d
 refine gp u 9 0 [] (decide (u0 < 0)) (i6 5) rfl rfl ?_; intro Y y; clear u
 refine gp y 10 0 [] (decide (u0 < 0)) (.bool (decide (u0 ≥ 5))) rfl rfl ?_; intro aa f; clear y
 refine st f (.bool ((decide (u0 < 0)) || (decide (u0 ≥ 5)))) (nog rfl _) rfl (by kernel_rfl) (pk_or f (g := []) (m := 0) (b := decide (u0 < 0)) (v := decide (u0 ≥ 5)) rfl (by kernel_rfl) (by kernel_rfl) (by kernel_rfl) rfl) ?_; intro z c; clear f
 refine nlH (l _ _ ?_); clear l G
 refine cd c (t := (decide (u0 < 0)) || (decide (u0 ≥ 5))) (by kernel_rfl) (fun h => ?_) (fun h => ?_)
 · -- yes
  have H := hp.1 h; clear hp
  have A : Fr 16 [] [] z := c.region (by kernel_rfl) (by kernel_rfl); clear c
  refine sqB A a [] [] [(2, i6 0), (3, i6 8)] ?_; intro ab I; clear A
  refine wp_ret ?_
  refine thr ?_
  refine ra2 I (.tuple #[i6 0, i6 8]) ?_
  exact ⟨(0, 8), rfl, H, a.below⟩
 · -- no
  have J := hp.2 h; clear hp
  refine wp_skip ?_
  refine thn ?_
  have B : Fr 16 [] [⟨0, [], i6 u0⟩] z := c.region (by kernel_rfl) (by kernel_rfl); clear c
  refine sqH ?_; intro L C
  refine fc B a (ckinds_fun  _ _ a.fz) ?_; intro ac ad D E; clear B a
  refine s1 D 13 (i6 u0) ?_; intro ae i; clear D
  obtain ⟨M, N⟩ := J
  have hix : ∀ x : Int, 0 ≤ x ∧ x < 5 → x = 0 ∨ x = 1 ∨ x = 2 ∨ x = 3 ∨ x = 4 := by intro x hx; omega
  refine st i (.agg #[i6 (([ckinds.1.Size, ckinds.2.1.Size, ckinds.2.2.1.Size, ckinds.2.2.2.1.Size, ckinds.2.2.2.2.Size] : List Int).getD u0.toNat 0), y6 (([ckinds.1.Poly, ckinds.2.1.Poly, ckinds.2.2.1.Poly, ckinds.2.2.2.1.Poly, ckinds.2.2.2.2.Poly] : List Int).getD u0.toNat 0), y6 (([ckinds.1.From, ckinds.2.1.From, ckinds.2.2.1.From, ckinds.2.2.2.1.From, ckinds.2.2.2.2.From] : List Int).getD u0.toNat 0), y6 (([ckinds.1.End, ckinds.2.1.End, ckinds.2.2.1.End, ckinds.2.2.2.1.End, ckinds.2.2.2.2.End] : List Int).getD u0.toNat 0)]) (nog rfl _) rfl (by kernel_rfl) ((by generalize u0 = ix at *; rcases hix _ M with rfl | rfl | rfl | rfl | rfl <;> exact p0 i (by kernel_rfl))) ?_; intro af F; clear i
  refine bt F E 3 [] [] [(2, i6 (([ckinds.1.Size, ckinds.2.1.Size, ckinds.2.2.1.Size, ckinds.2.2.2.1.Size, ckinds.2.2.2.2.Size] : List Int).getD u0.toNat 0)), (3, i6 0)] ?_; intro ag O; clear F
  refine nlH (C _ _ ?_); clear C L
  refine wp_ret ?_
  refine ra2 O (.tuple #[i6 (([ckinds.1.Size, ckinds.2.1.Size, ckinds.2.2.1.Size, ckinds.2.2.2.1.Size, ckinds.2.2.2.2.Size] : List Int).getD u0.toNat 0), i6 0]) ?_
  exact ⟨(([ckinds.1.Size, ckinds.2.1.Size, ckinds.2.2.1.Size, ckinds.2.2.2.1.Size, ckinds.2.2.2.2.Size] : List Int).getD u0.toNat 0, 0), rfl, N, E.below⟩
theorem csize_fun (u0 : Int)  (Z : Fz) (w : World)  (hZ : Z.on w) : Calls Try.prog 89 #[i6 u0] w fun e w' => e = .returned (.tuple #[i6 (csize u0).1, i6 (csize u0).2]) ∧ Below w.heap.size w w' :=
  (csize_walk u0  Z w  hZ (csize_ok u0)).mono fun _ _ ⟨r, he, hk, hb⟩ => ⟨by subst hk; exact he, hb⟩

theorem fhead_walk (u0 : Frame) (ao1 : Option Addr) (cap2 : Nat) (Z : Fz) (w : World) (hs3 : SlR t8 Z ao1 cap2 u0.Data) (hZ : Z.on w) {K : (List UInt8) → Prop} (hp : fhead_vc u0 K) : Calls Try.prog 87 #[.agg #[i6 u0.ID, .bool u0.Long, .bool u0.Fast, .bool u0.Remote, i6 u0.Size, .slice ao1 u0.Data.length cap2]] w fun e w' => ∃ r : (List UInt8), e = .returned (str r) ∧ K r ∧ Below w.heap.size w w' := by
 refine enter0 Try.func87 rfl rfl (by kernel_rfl) ?_; intro a0 L; have M := Mem.start w Z hZ; have s := Fz.le.refl Z
 have u := hp (hs3.small); clear hp
 refine sqH ?_; intro bS N
 refine nw L M pb (e58Dd u0 ao1 cap2) 58 ?_; intro v a7 dN O c; clear L M
 refine s1 O 2 (str []) ?_; intro dO P; clear O
 refine nlH (N _ _ ?_); clear N bS
 refine sqB P c [0] [] [(3, i6 u0.Size)] ?_; intro dP Q; clear P
 refine wp_seq ?_
 refine sqB Q c [0] [] [(11, .bool (!u0.Remote))] ?_; intro bT f; clear Q
 refine cd f (t := !u0.Remote) (by kernel_rfl) (fun B => ?_) (fun B => ?_)
 · -- yes
  have bU := u.1 B; clear u
  have R : Fr 45 [] [⟨1, [], pt v 0⟩] bT := f.region (by kernel_rfl) (by kernel_rfl); clear f
  refine rgS mixed c [(1, true), (2, true), (3, true), (0, false), (4, false), (5, true)] [] [0] [.row v (e58Dd u0 ao1 cap2) 58] ?_
  intro bV S dQ C; clear c
  have d := Fz.le.refl Z
  refine cS R 3 [0] [] [(15, i6 (u0.Data.length : Int))] ?_; intro dR T; clear R
  refine eS rfl ?_; intro bW U
  refine ck T 91 #[] ?_
  refine (fsizes_fun  _ _ C.fz).mono ?_; rintro _ V ⟨W, X, bX, rfl, hm⟩; refine ⟨_, rfl, ?_⟩; intro dS Y; have aa := C.callZ hm; have D := hm.ext.le; clear hm C T
  replace hs3 := hs3.mono D
  replace d := d.mono D
  replace s := Fz.le.trans s D
  have ab : Mem w.heap.size [] w Z [.own t6 3 W X fsizes, .row v (e58Dd u0 ao1 cap2) 58] bX V := aa; clear aa
  refine nl (qnI (U _ _ (ab.cst d [1]) ?_)); clear U bW
  refine eS rfl ?_; intro bY ac
  obtain ⟨bZ, E, ad, b0⟩ := ab.freeze 0 rfl
  replace hs3 := hs3.mono E
  replace d := d.mono E
  replace s := Fz.le.trans s E
  have F : Mem w.heap.size [] w Z [.row v (e58Dd u0 ao1 cap2) 58] bZ V := ad; clear ad
  refine fc Y F (sindex_fun fsizes (u0.Data.length : Int) W X _ _ b0 F.fz) ?_; intro dT dU ae g; clear Y F
  refine nl (qnI (ac _ _ (g.cst d [0]) ?_)); clear ac bY
  refine cS ae 1 [] [] [(3, i6 (sindexS fsizes (u0.Data.length : Int)))] ?_; intro dV af; clear ae
  refine nS (S _ _ ?_); clear S bV
  refine thn ?_
  refine sqH ?_; intro b1 ag
  refine l2 af g 17 0 0 6 (e58Dd u0 ao1 cap2) rfl rfl ?_; intro dW ah; clear af
  obtain ⟨b2, b3⟩ := bU
  refine fc ah g (fname_fun u0 b2 ao1 cap2 _ _ hs3 g.fz) ?_; intro dX dY ai a; clear ah g
  obtain ⟨b4, x⟩ := b3
  refine sa ai b4 ?_; intro dZ aj; clear ai
  refine s1 aj 4 (str (([48] : List UInt8) ++ (fnameS u0))) ?_; intro d0 ak; clear aj
  refine nlH (ag _ _ ?_); clear ag b1
  refine wp_seq ?_
  refine wp_block ?_
  refine sqB ak a [0] [] [(22, .bool u0.Fast)] ?_; intro d1 h; clear ak
  refine cd h (t := u0.Fast) (by kernel_rfl) (fun G => ?_) (fun G => ?_)
  · -- yes
   have b5 := x.1 G; clear x
   refine rgH ?_; intro b7 al
   refine s1 h 25 (str (([48] : List UInt8) ++ (fnameS u0))) ?_; intro d2 am; clear h
   obtain ⟨b8, b9⟩ := b5
   refine sa am b8 ?_; intro d3 an; clear am
   refine s1 an 4 (str ((([48] : List UInt8) ++ (fnameS u0)) ++ ([49, 48, 49, 48] : List UInt8))) ?_; intro d4 ao; clear an
   refine nlH (al _ _ ?_); clear al b7
   refine ibn ?_
   refine thn ?_
   refine sqH ?_; intro ca ap
   refine bt ao a 2 [0] [] [(34, .slice ao1 u0.Data.length cap2)] ?_; intro d5 aq; clear ao
   obtain ⟨cb, cc⟩ := b9
   refine fc aq a (bof_fun u0.Data cb ao1 cap2 _ _ hs3 a.fz) ?_; intro d6 d7 ar i; clear aq a
   refine bt ar i 5 [] [] [(5, str (bofS u0.Data).1)] ?_; intro d8 au; clear ar
   refine nlH (ap _ _ ?_); clear ap ca
   refine sqH ?_; intro ce av
   refine bt au i 3 [] [] [(38, str ((([48] : List UInt8) ++ (fnameS u0)) ++ ([49, 48, 49, 48] : List UInt8))), (40, y6 (wu64 (sindexS fsizes (u0.Data.length : Int))))] ?_; intro d9 aw; clear au
   obtain ⟨cf, cg⟩ := cc
   refine fc aw i (bwrite_fun (wu64 (sindexS fsizes (u0.Data.length : Int))) 4 cf _ _ i.fz) ?_; intro ea eb ax ch; clear aw i
   obtain ⟨ci, cj⟩ := cg
   refine sa ax ci ?_; intro ec ay; clear ax
   refine s1 ay 43 (str (bofS u0.Data).1) ?_; intro ed az; clear ay
   obtain ⟨cl, cm⟩ := cj
   refine sa az cl ?_; intro ee aA; clear az
   refine s1 aA 2 (str ((((([48] : List UInt8) ++ (fnameS u0)) ++ ([49, 48, 49, 48] : List UInt8)) ++ (bwriteS (wu64 (sindexS fsizes (u0.Data.length : Int))) 4)) ++ (bofS u0.Data).1)) ?_; intro ef cn; clear aA
   refine nlH (av _ _ ?_); clear av ce
   refine wp_ret ?_
   refine ra1 cn (str ((((([48] : List UInt8) ++ (fnameS u0)) ++ ([49, 48, 49, 48] : List UInt8)) ++ (bwriteS (wu64 (sindexS fsizes (u0.Data.length : Int))) 4)) ++ (bofS u0.Data).1)) ?_
   exact ⟨(((([48] : List UInt8) ++ (fnameS u0)) ++ ([49, 48, 49, 48] : List UInt8)) ++ (bwriteS (wu64 (sindexS fsizes (u0.Data.length : Int))) 4)) ++ (bofS u0.Data).1, rfl, cm, ch.below⟩
  · -- no
   have y := x.2 G; clear x
   refine sqB h a [0] [] [(27, .bool u0.Long)] ?_; intro eg j; clear h
   refine cd j (t := u0.Long) (by kernel_rfl) (fun H => ?_) (fun H => ?_)
   · -- yes
    have co := y.1 H; clear y
    refine rgH ?_; intro cp aB
    refine s1 j 30 (str (([48] : List UInt8) ++ (fnameS u0))) ?_; intro eh aC; clear j
    obtain ⟨cq, cr⟩ := co
    refine sa aC cq ?_; intro ei aD; clear aC
    refine s1 aD 4 (str ((([48] : List UInt8) ++ (fnameS u0)) ++ ([48, 48] : List UInt8))) ?_; intro ej aE; clear aD
    refine nlH (aB _ _ ?_); clear aB cp
    refine ibn ?_
    refine thn ?_
    refine sqH ?_; intro cs aF
    refine bt aE a 2 [0] [] [(34, .slice ao1 u0.Data.length cap2)] ?_; intro ek aG; clear aE
    obtain ⟨ct, cu⟩ := cr
    refine fc aG a (bof_fun u0.Data ct ao1 cap2 _ _ hs3 a.fz) ?_; intro el em aH k; clear aG a
    refine bt aH k 5 [] [] [(5, str (bofS u0.Data).1)] ?_; intro en aI; clear aH
    refine nlH (aF _ _ ?_); clear aF cs
    refine sqH ?_; intro cv aJ
    refine bt aI k 3 [] [] [(38, str ((([48] : List UInt8) ++ (fnameS u0)) ++ ([48, 48] : List UInt8))), (40, y6 (wu64 (sindexS fsizes (u0.Data.length : Int))))] ?_; intro eo aK; clear aI
    obtain ⟨cw, cx⟩ := cu
    refine fc aK k (bwrite_fun (wu64 (sindexS fsizes (u0.Data.length : Int))) 4 cw _ _ k.fz) ?_; intro ep eq aL cy; clear aK k
    obtain ⟨cz, cA⟩ := cx
    refine sa aL cz ?_; intro er aM; clear aL
    refine s1 aM 43 (str (bofS u0.Data).1) ?_; intro es aN; clear aM
    obtain ⟨cB, cC⟩ := cA
    refine sa aN cB ?_; intro et aO; clear aN
    refine s1 aO 2 (str ((((([48] : List UInt8) ++ (fnameS u0)) ++ ([48, 48] : List UInt8)) ++ (bwriteS (wu64 (sindexS fsizes (u0.Data.length : Int))) 4)) ++ (bofS u0.Data).1)) ?_; intro eu cD; clear aO
    refine nlH (aJ _ _ ?_); clear aJ cv
    refine wp_ret ?_
    refine ra1 cD (str ((((([48] : List UInt8) ++ (fnameS u0)) ++ ([48, 48] : List UInt8)) ++ (bwriteS (wu64 (sindexS fsizes (u0.Data.length : Int))) 4)) ++ (bofS u0.Data).1)) ?_
    exact ⟨(((([48] : List UInt8) ++ (fnameS u0)) ++ ([48, 48] : List UInt8)) ++ (bwriteS (wu64 (sindexS fsizes (u0.Data.length : Int))) 4)) ++ (bofS u0.Data).1, rfl, cC, cy.below⟩
   · -- no
    have cE := y.2 H; clear y
    refine rgH ?_; intro cF aP
    refine s1 j 20 (str (([48] : List UInt8) ++ (fnameS u0))) ?_; intro ev aQ; clear j
    obtain ⟨cG, cH⟩ := cE
    refine sa aQ cG ?_; intro ew aR; clear aQ
    refine s1 aR 4 (str ((([48] : List UInt8) ++ (fnameS u0)) ++ ([48] : List UInt8))) ?_; intro ex aS; clear aR
    refine nlH (aP _ _ ?_); clear aP cF
    refine ibn ?_
    refine thn ?_
    refine sqH ?_; intro cI aT
    refine bt aS a 2 [0] [] [(34, .slice ao1 u0.Data.length cap2)] ?_; intro ey aU; clear aS
    obtain ⟨cJ, cK⟩ := cH
    refine fc aU a (bof_fun u0.Data cJ ao1 cap2 _ _ hs3 a.fz) ?_; intro ez eA aV l; clear aU a
    refine bt aV l 5 [] [] [(5, str (bofS u0.Data).1)] ?_; intro eB aW; clear aV
    refine nlH (aT _ _ ?_); clear aT cI
    refine sqH ?_; intro cL aX
    refine bt aW l 3 [] [] [(38, str ((([48] : List UInt8) ++ (fnameS u0)) ++ ([48] : List UInt8))), (40, y6 (wu64 (sindexS fsizes (u0.Data.length : Int))))] ?_; intro eC aY; clear aW
    obtain ⟨cM, cN⟩ := cK
    refine fc aY l (bwrite_fun (wu64 (sindexS fsizes (u0.Data.length : Int))) 4 cM _ _ l.fz) ?_; intro eD eE aZ cO; clear aY l
    obtain ⟨cP, cQ⟩ := cN
    refine sa aZ cP ?_; intro eF a1; clear aZ
    refine s1 a1 43 (str (bofS u0.Data).1) ?_; intro eG a2; clear a1
    obtain ⟨cR, cT⟩ := cQ
    refine sa a2 cR ?_; intro eH a3; clear a2
    refine s1 a3 2 (str ((((([48] : List UInt8) ++ (fnameS u0)) ++ ([48] : List UInt8)) ++ (bwriteS (wu64 (sindexS fsizes (u0.Data.length : Int))) 4)) ++ (bofS u0.Data).1)) ?_; intro eI cU; clear a3
    refine nlH (aX _ _ ?_); clear aX cL
    refine wp_ret ?_
    refine ra1 cU (str ((((([48] : List UInt8) ++ (fnameS u0)) ++ ([48] : List UInt8)) ++ (bwriteS (wu64 (sindexS fsizes (u0.Data.length : Int))) 4)) ++ (bofS u0.Data).1)) ?_
    exact ⟨(((([48] : List UInt8) ++ (fnameS u0)) ++ ([48] : List UInt8)) ++ (bwriteS (wu64 (sindexS fsizes (u0.Data.length : Int))) 4)) ++ (bofS u0.Data).1, rfl, cT, cO.below⟩
 · -- no
  have cV := u.2 B; clear u
  refine wp_skip ?_
  refine thn ?_
  refine sqH ?_; intro cW a4
  refine l2 f c 17 0 0 6 (e58Dd u0 ao1 cap2) rfl rfl ?_; intro eJ a5; clear f
  obtain ⟨cX, cY⟩ := cV
  refine fc a5 c (fname_fun u0 cX ao1 cap2 _ _ hs3 c.fz) ?_; intro eK eL a6 b; clear a5 c
  obtain ⟨cZ, z⟩ := cY
  refine sa a6 cZ ?_; intro eM a8; clear a6
  refine s1 a8 4 (str (([48] : List UInt8) ++ (fnameS u0))) ?_; intro eN a9; clear a8
  refine nlH (a4 _ _ ?_); clear a4 cW
  refine wp_seq ?_
  refine wp_block ?_
  refine sqB a9 b [0] [] [(22, .bool u0.Fast)] ?_; intro eO m; clear a9
  refine cd m (t := u0.Fast) (by kernel_rfl) (fun I => ?_) (fun I => ?_)
  · -- yes
   have c0 := z.1 I; clear z
   refine rgH ?_; intro c1 ba
   refine s1 m 25 (str (([48] : List UInt8) ++ (fnameS u0))) ?_; intro eP bb; clear m
   obtain ⟨c2, c3⟩ := c0
   refine sa bb c2 ?_; intro eQ bc; clear bb
   refine s1 bc 4 (str ((([48] : List UInt8) ++ (fnameS u0)) ++ ([49, 48, 49, 48] : List UInt8))) ?_; intro eR bd; clear bc
   refine nlH (ba _ _ ?_); clear ba c1
   refine ibn ?_
   refine thn ?_
   refine sqH ?_; intro c4 be
   refine bt bd b 2 [0] [] [(34, .slice ao1 u0.Data.length cap2)] ?_; intro eT bf; clear bd
   obtain ⟨c5, c6⟩ := c3
   refine fc bf b (bof_fun u0.Data c5 ao1 cap2 _ _ hs3 b.fz) ?_; intro eU eV bg n; clear bf b
   refine bt bg n 5 [] [] [(5, str (bofS u0.Data).1)] ?_; intro eW bh; clear bg
   refine nlH (be _ _ ?_); clear be c4
   refine sqH ?_; intro c7 bi
   refine bt bh n 3 [] [] [(38, str ((([48] : List UInt8) ++ (fnameS u0)) ++ ([49, 48, 49, 48] : List UInt8))), (40, y6 (wu64 u0.Size))] ?_; intro eX bj; clear bh
   obtain ⟨c8, c9⟩ := c6
   refine fc bj n (bwrite_fun (wu64 u0.Size) 4 c8 _ _ n.fz) ?_; intro eY eZ bk da; clear bj n
   obtain ⟨db, dc⟩ := c9
   refine sa bk db ?_; intro e0 bl; clear bk
   refine s1 bl 43 (str (bofS u0.Data).1) ?_; intro e1 bm; clear bl
   obtain ⟨dd, de⟩ := dc
   refine sa bm dd ?_; intro e2 bn; clear bm
   refine s1 bn 2 (str ((((([48] : List UInt8) ++ (fnameS u0)) ++ ([49, 48, 49, 48] : List UInt8)) ++ (bwriteS (wu64 u0.Size) 4)) ++ (bofS u0.Data).1)) ?_; intro e3 df; clear bn
   refine nlH (bi _ _ ?_); clear bi c7
   refine wp_ret ?_
   refine ra1 df (str ((((([48] : List UInt8) ++ (fnameS u0)) ++ ([49, 48, 49, 48] : List UInt8)) ++ (bwriteS (wu64 u0.Size) 4)) ++ (bofS u0.Data).1)) ?_
   exact ⟨(((([48] : List UInt8) ++ (fnameS u0)) ++ ([49, 48, 49, 48] : List UInt8)) ++ (bwriteS (wu64 u0.Size) 4)) ++ (bofS u0.Data).1, rfl, de, da.below⟩
  · -- no
   have A := z.2 I; clear z
   refine sqB m b [0] [] [(27, .bool u0.Long)] ?_; intro e4 o; clear m
   refine cd o (t := u0.Long) (by kernel_rfl) (fun J => ?_) (fun J => ?_)
   · -- yes
    have dg := A.1 J; clear A
    refine rgH ?_; intro dh bo
    refine s1 o 30 (str (([48] : List UInt8) ++ (fnameS u0))) ?_; intro e5 bp; clear o
    obtain ⟨di, dj⟩ := dg
    refine sa bp di ?_; intro e6 bq; clear bp
    refine s1 bq 4 (str ((([48] : List UInt8) ++ (fnameS u0)) ++ ([48, 48] : List UInt8))) ?_; intro e7 br; clear bq
    refine nlH (bo _ _ ?_); clear bo dh
    refine ibn ?_
    refine thn ?_
    refine sqH ?_; intro dk bs
    refine bt br b 2 [0] [] [(34, .slice ao1 u0.Data.length cap2)] ?_; intro e8 bu; clear br
    obtain ⟨dl, dm⟩ := dj
    refine fc bu b (bof_fun u0.Data dl ao1 cap2 _ _ hs3 b.fz) ?_; intro e9 fa bv p; clear bu b
    refine bt bv p 5 [] [] [(5, str (bofS u0.Data).1)] ?_; intro fb bw; clear bv
    refine nlH (bs _ _ ?_); clear bs dk
    refine sqH ?_; intro dn bx
    refine bt bw p 3 [] [] [(38, str ((([48] : List UInt8) ++ (fnameS u0)) ++ ([48, 48] : List UInt8))), (40, y6 (wu64 u0.Size))] ?_; intro fd bz; clear bw
    obtain ⟨dp, dq⟩ := dm
    refine fc bz p (bwrite_fun (wu64 u0.Size) 4 dp _ _ p.fz) ?_; intro fe ff bA dr; clear bz p
    obtain ⟨ds, dt⟩ := dq
    refine sa bA ds ?_; intro fg bB; clear bA
    refine s1 bB 43 (str (bofS u0.Data).1) ?_; intro fh bC; clear bB
    obtain ⟨du, dv⟩ := dt
    refine sa bC du ?_; intro fi bD; clear bC
    refine s1 bD 2 (str ((((([48] : List UInt8) ++ (fnameS u0)) ++ ([48, 48] : List UInt8)) ++ (bwriteS (wu64 u0.Size) 4)) ++ (bofS u0.Data).1)) ?_; intro fj dw; clear bD
    refine nlH (bx _ _ ?_); clear bx dn
    refine wp_ret ?_
    refine ra1 dw (str ((((([48] : List UInt8) ++ (fnameS u0)) ++ ([48, 48] : List UInt8)) ++ (bwriteS (wu64 u0.Size) 4)) ++ (bofS u0.Data).1)) ?_
    exact ⟨(((([48] : List UInt8) ++ (fnameS u0)) ++ ([48, 48] : List UInt8)) ++ (bwriteS (wu64 u0.Size) 4)) ++ (bofS u0.Data).1, rfl, dv, dr.below⟩
   · -- no
    have dx := A.2 J; clear A
    refine rgH ?_; intro dy bE
    refine s1 o 20 (str (([48] : List UInt8) ++ (fnameS u0))) ?_; intro fk bF; clear o
    obtain ⟨dz, dA⟩ := dx
    refine sa bF dz ?_; intro fl bG; clear bF
    refine s1 bG 4 (str ((([48] : List UInt8) ++ (fnameS u0)) ++ ([48] : List UInt8))) ?_; intro fm bH; clear bG
    refine nlH (bE _ _ ?_); clear bE dy
    refine ibn ?_
    refine thn ?_
    refine sqH ?_; intro dB bI
    refine bt bH b 2 [0] [] [(34, .slice ao1 u0.Data.length cap2)] ?_; intro fn bJ; clear bH
    obtain ⟨dC, dD⟩ := dA
    refine fc bJ b (bof_fun u0.Data dC ao1 cap2 _ _ hs3 b.fz) ?_; intro fo fp bK q; clear bJ b
    refine bt bK q 5 [] [] [(5, str (bofS u0.Data).1)] ?_; intro fq bL; clear bK
    refine nlH (bI _ _ ?_); clear bI dB
    refine sqH ?_; intro dE bM
    refine bt bL q 3 [] [] [(38, str ((([48] : List UInt8) ++ (fnameS u0)) ++ ([48] : List UInt8))), (40, y6 (wu64 u0.Size))] ?_; intro fr bN; clear bL
    obtain ⟨dF, dG⟩ := dD
    refine fc bN q (bwrite_fun (wu64 u0.Size) 4 dF _ _ q.fz) ?_; intro fs ft bO dH; clear bN q
    obtain ⟨dI, dJ⟩ := dG
    refine sa bO dI ?_; intro fu bP; clear bO
    refine s1 bP 43 (str (bofS u0.Data).1) ?_; intro fv bQ; clear bP
    obtain ⟨dK, dL⟩ := dJ
    refine sa bQ dK ?_; intro fw bR; clear bQ
    refine s1 bR 2 (str ((((([48] : List UInt8) ++ (fnameS u0)) ++ ([48] : List UInt8)) ++ (bwriteS (wu64 u0.Size) 4)) ++ (bofS u0.Data).1)) ?_; intro fx dM; clear bR
    refine nlH (bM _ _ ?_); clear bM dE
    refine wp_ret ?_
    refine ra1 dM (str ((((([48] : List UInt8) ++ (fnameS u0)) ++ ([48] : List UInt8)) ++ (bwriteS (wu64 u0.Size) 4)) ++ (bofS u0.Data).1)) ?_
    exact ⟨(((([48] : List UInt8) ++ (fnameS u0)) ++ ([48] : List UInt8)) ++ (bwriteS (wu64 u0.Size) 4)) ++ (bofS u0.Data).1, rfl, dL, dH.below⟩

end Go.Proofs.Ytginlmgkimfjmaa
set_option linter.unusedVariables false
set_option linter.unusedSimpArgs false
set_option maxRecDepth 100000
set_option maxHeartbeats 0
namespace Go.Proofs.Ytginlmgkimfjmaa
open Go.Sy Go.RowKit
theorem fhead_fun (u0 : Frame) (hpre : fheadpre u0) (ao1 : Option Addr) (cap2 : Nat) (Z : Fz) (w : World) (hs3 : SlR t8 Z ao1 cap2 u0.Data) (hZ : Z.on w) : Calls Try.prog 87 #[.agg #[i6 u0.ID, .bool u0.Long, .bool u0.Fast, .bool u0.Remote, i6 u0.Size, .slice ao1 u0.Data.length cap2]] w fun e w' => e = .returned (str (fheadS u0)) ∧ Below w.heap.size w w' :=
  (fhead_walk u0 ao1 cap2 Z w hs3 hZ (fhead_ok u0 hpre)).mono fun _ _ ⟨r, he, hk, hb⟩ => ⟨by subst hk; exact he, hb⟩

theorem flongest_walk (u0 : Bool) (u1 : Bool) (u2 : Int)  (Z : Fz) (w : World)  (hZ : Z.on w) {K : (Int × Int) → Prop} (hp : flongest_vc u0 u1 u2 K) : Calls Try.prog 55 #[.bool u0, .bool u1, i6 u2] w fun e w' => ∃ r : Int × Int, e = .returned (.tuple #[i6 r.1, i6 r.2]) ∧ K r ∧ Below w.heap.size w w' := by
 refine enter0 Try.func55 rfl rfl (by kernel_rfl) ?_; intro a0 C; have l := Mem.start w Z hZ; have D := Fz.le.refl Z
 refine sqB C l [] [] [] ?_; intro a4 E; clear C
 refine sqH ?_; intro aq F
 refine bt E l 3 [] [] [(19, .agg #[i6 0, .bool u0, .bool u1, .bool false, i6 0, .slice none 0 0])] ?_; intro aO G; clear E
 refine nw G l pb [i6 0, .bool false, .bool false, .bool false, i6 0, .slice none 0 0] 58 ?_; intro d aP aQ o H; clear G l
 refine sx o H 0 [i6 0, .bool u0, .bool u1, .bool false, i6 0, .slice none 0 0] 0 ?_; intro ar I; clear H
 have f : Mem w.heap.size [] w Z [.row d [i6 0, .bool u0, .bool u1, .bool false, i6 0, .slice none 0 0] 58] Z ar := I; clear I
 refine nlH (F _ _ ?_); clear F aq
 refine wp_seq ?_
 refine sqB o f [] [] [(25, .bool ((decide (u2 < 0)) || (decide (u2 > 64))))] ?_; intro aR g; clear o
 refine cd g (t := (decide (u2 < 0)) || (decide (u2 > 64))) (by kernel_rfl) (fun p => ?_) (fun p => ?_)
 · -- yes
  have au := hp.1 p; clear hp
  refine sqB g f [] [] [(6, i6 0), (7, i6 2)] ?_; intro aS av; clear g
  refine wp_ret ?_
  refine thr ?_
  refine ra2 av (.tuple #[i6 0, i6 2]) ?_
  exact ⟨(0, 2), rfl, au, f.below⟩
 · -- no
  have aw := hp.2 p; clear hp
  refine wp_skip ?_
  refine thn ?_
  refine sqH ?_; intro ax J
  refine s1 g 26 (i6 u2) ?_; intro aT L; clear g
  obtain ⟨aU, m⟩ := aw
  refine mks L f (T := t8) u2 u2 (k := .i64) (k' := .i64) (e := 5) (bytes := 1) (zs := [y8 0]) (z := 0) (by simp only [lim]; omega) (nog rfl _) rfl (by kernel_rfl) rfl (by kernel_rfl) (by kernel_rfl) (by kernel_rfl) (by kernel_rfl) rfl ?_; intro a aV ay M N; clear L f
  have O : Mem w.heap.size [] w Z [.own t8 5 (sm a) u2.toNat (List.replicate u2.toNat (0 : Int)), .row d [i6 0, .bool u0, .bool u1, .bool false, i6 0, .slice none 0 0] 58] Z ay := N; clear N
  refine s1 M 28 (pt d 5) ?_; intro aW q; clear M
  refine sx q O 1 [i6 0, .bool u0, .bool u1, .bool false, i6 0, .slice (sm a) (List.replicate u2.toNat (0 : Int)).length u2.toNat] 5 ?_; intro P Q; clear O
  have R : Mem w.heap.size [] w Z [.own t8 5 (sm a) u2.toNat (List.replicate u2.toNat (0 : Int)), .row d [i6 0, .bool u0, .bool u1, .bool false, i6 0, .slice (sm a) (List.replicate u2.toNat (0 : Int)).length u2.toNat] 58] Z P := Q; clear Q
  refine nlH (J _ _ ?_); clear J ax
  refine wp_seq ?_
  refine sqH ?_; intro az S
  refine l2 q R 29 1 0 6 [i6 0, .bool u0, .bool u1, .bool false, i6 0, .slice (sm a) (List.replicate u2.toNat (0 : Int)).length u2.toNat] rfl rfl ?_; intro aX U; clear q
  obtain ⟨aA, aB, V, s⟩ := R.freeze 0 rfl
  replace D := Fz.le.trans D aB
  have u : Mem w.heap.size [] w Z [.row d [i6 0, .bool u0, .bool u1, .bool false, i6 0, .slice (sm a) (List.replicate u2.toNat (0 : Int)).length u2.toNat] 58] aA P := V; clear V
  refine fc U u (fcheckfr_fun (⟨0, u0, u1, false, 0, (List.replicate u2.toNat (0 : Int))⟩ : Frame) (sm a) u2.toNat _ _ s u.fz) ?_; intro aY aZ W c; clear U u
  refine s1 W 9 (i6 (fcheckfr (⟨0, u0, u1, false, 0, (List.replicate u2.toNat (0 : Int))⟩ : Frame))) ?_; intro a1 X; clear W
  refine nlH (S _ _ ?_); clear S az
  refine sqB X c [] [] [(32, .bool ((fcheckfr (⟨0, u0, u1, false, 0, (List.replicate u2.toNat (0 : Int))⟩ : Frame)) != 0))] ?_; intro a2 h; clear X
  refine cd h (t := (fcheckfr (⟨0, u0, u1, false, 0, (List.replicate u2.toNat (0 : Int))⟩ : Frame)) != 0) (by kernel_rfl) (fun v => ?_) (fun v => ?_)
  · -- yes
   have aC := m.1 v; clear m
   refine sqB h c [] [] [(6, i6 0), (7, i6 (fcheckfr (⟨0, u0, u1, false, 0, (List.replicate u2.toNat (0 : Int))⟩ : Frame)))] ?_; intro a3 aD; clear h
   refine wp_ret ?_
   refine thr ?_
   refine ra2 aD (.tuple #[i6 0, i6 (fcheckfr (⟨0, u0, u1, false, 0, (List.replicate u2.toNat (0 : Int))⟩ : Frame))]) ?_
   exact ⟨(0, (fcheckfr (⟨0, u0, u1, false, 0, (List.replicate u2.toNat (0 : Int))⟩ : Frame))), rfl, aC, c.below⟩
  · -- no
   have aE := m.2 v; clear m
   refine wp_skip ?_
   refine thn ?_
   refine sqH ?_; intro aF Y
   refine l2 h c 34 0 0 6 [i6 0, .bool u0, .bool u1, .bool false, i6 0, .slice (sm a) (List.replicate u2.toNat (0 : Int)).length u2.toNat] rfl rfl ?_; intro a5 aa; clear h
   obtain ⟨aG, n⟩ := aE
   refine fc aa c (fhead_fun (⟨0, u0, u1, false, 0, (List.replicate u2.toNat (0 : Int))⟩ : Frame) aG (sm a) u2.toNat _ _ s c.fz) ?_; intro a6 a7 ab b; clear aa c
   refine bt ab b 2 [] [] [(10, i6 ((fheadS (⟨0, u0, u1, false, 0, (List.replicate u2.toNat (0 : Int))⟩ : Frame)).length : Int))] ?_; intro a8 ac; clear ab
   refine nlH (Y _ _ ?_); clear Y aF
   refine wp_seq ?_
   refine sqB ac b [] [] [(38, .bool (!u1))] ?_; intro a9 i; clear ac
   refine cd i (t := !u1) (by kernel_rfl) (fun x => ?_) (fun x => ?_)
   · -- yes
    have aH := n.1 x; clear n
    refine sqH ?_; intro aI ad
    refine bt i b 2 [] [] [(41, i6 (w64 (((fheadS (⟨0, u0, u1, false, 0, (List.replicate u2.toNat (0 : Int))⟩ : Frame)).length : Int) + 15)))] ?_; intro ba ae; clear i
    refine fc ae b (smost_fun (w64 (((fheadS (⟨0, u0, u1, false, 0, (List.replicate u2.toNat (0 : Int))⟩ : Frame)).length : Int) + 15)) _ _ b.fz) ?_; intro bb bc af y; clear ae b
    refine bt af y 5 [] [] [(11, i6 (smost (w64 (((fheadS (⟨0, u0, u1, false, 0, (List.replicate u2.toNat (0 : Int))⟩ : Frame)).length : Int) + 15))).1)] ?_; intro bd ag; clear af
    refine nlH (ad _ _ ?_); clear ad aI
    refine sqB ag y [] [] [(6, i6 (w64 ((smost (w64 (((fheadS (⟨0, u0, u1, false, 0, (List.replicate u2.toNat (0 : Int))⟩ : Frame)).length : Int) + 15))).1 + 10))), (7, i6 0)] ?_; intro be aJ; clear ag
    refine wp_ret ?_
    refine thr ?_
    refine ra2 aJ (.tuple #[i6 (w64 ((smost (w64 (((fheadS (⟨0, u0, u1, false, 0, (List.replicate u2.toNat (0 : Int))⟩ : Frame)).length : Int) + 15))).1 + 10)), i6 0]) ?_
    exact ⟨(w64 ((smost (w64 (((fheadS (⟨0, u0, u1, false, 0, (List.replicate u2.toNat (0 : Int))⟩ : Frame)).length : Int) + 15))).1 + 10), 0), rfl, aH, y.below⟩
   · -- no
    have aK := n.2 x; clear n
    refine wp_skip ?_
    refine thn ?_
    refine sqH ?_; intro aL ah
    refine s1 i 48 (i6 ((fheadS (⟨0, u0, u1, false, 0, (List.replicate u2.toNat (0 : Int))⟩ : Frame)).length : Int)) ?_; intro bf ai; clear i
    refine fc ai b (smost_fun ((fheadS (⟨0, u0, u1, false, 0, (List.replicate u2.toNat (0 : Int))⟩ : Frame)).length : Int) _ _ b.fz) ?_; intro bg bh aj j; clear ai b
    refine bt aj j 5 [] [] [(13, i6 (smost ((fheadS (⟨0, u0, u1, false, 0, (List.replicate u2.toNat (0 : Int))⟩ : Frame)).length : Int)).1)] ?_; intro bi ak; clear aj
    refine nlH (ah _ _ ?_); clear ah aL
    refine sqH ?_; intro aM al
    refine l2 ak j 53 0 0 6 [i6 0, .bool u0, .bool u1, .bool false, i6 0, .slice (sm a) (List.replicate u2.toNat (0 : Int)).length u2.toNat] rfl rfl ?_; intro bj am; clear ak
    refine fc am j (fkind_fun (⟨0, u0, u1, false, 0, (List.replicate u2.toNat (0 : Int))⟩ : Frame) (sm a) u2.toNat _ _ s j.fz) ?_; intro bk bl an A; clear am j
    refine fc an A (csize_fun (fkind (⟨0, u0, u1, false, 0, (List.replicate u2.toNat (0 : Int))⟩ : Frame)) _ _ A.fz) ?_; intro bm bn ao B; clear an A
    refine bt ao B 5 [] [] [(15, i6 (csize (fkind (⟨0, u0, u1, false, 0, (List.replicate u2.toNat (0 : Int))⟩ : Frame))).1)] ?_; intro bo ap; clear ao
    refine nlH (al _ _ ?_); clear al aM
    refine sqB ap B [] [] [(6, i6 (w64 ((w64 ((smost ((fheadS (⟨0, u0, u1, false, 0, (List.replicate u2.toNat (0 : Int))⟩ : Frame)).length : Int)).1 + (w64 ((w64 (4 + (csize (fkind (⟨0, u0, u1, false, 0, (List.replicate u2.toNat (0 : Int))⟩ : Frame))).1)) + (w64 ((w64 ((w64 (4 + (csize (fkind (⟨0, u0, u1, false, 0, (List.replicate u2.toNat (0 : Int))⟩ : Frame))).1)) + 3)).tdiv 4)))))) + 10))), (7, i6 0)] ?_; intro bp aN; clear ap
    refine wp_ret ?_
    refine ra2 aN (.tuple #[i6 (w64 ((w64 ((smost ((fheadS (⟨0, u0, u1, false, 0, (List.replicate u2.toNat (0 : Int))⟩ : Frame)).length : Int)).1 + (w64 ((w64 (4 + (csize (fkind (⟨0, u0, u1, false, 0, (List.replicate u2.toNat (0 : Int))⟩ : Frame))).1)) + (w64 ((w64 ((w64 (4 + (csize (fkind (⟨0, u0, u1, false, 0, (List.replicate u2.toNat (0 : Int))⟩ : Frame))).1)) + 3)).tdiv 4)))))) + 10)), i6 0]) ?_
    exact ⟨(w64 ((w64 ((smost ((fheadS (⟨0, u0, u1, false, 0, (List.replicate u2.toNat (0 : Int))⟩ : Frame)).length : Int)).1 + (w64 ((w64 (4 + (csize (fkind (⟨0, u0, u1, false, 0, (List.replicate u2.toNat (0 : Int))⟩ : Frame))).1)) + (w64 ((w64 ((w64 (4 + (csize (fkind (⟨0, u0, u1, false, 0, (List.replicate u2.toNat (0 : Int))⟩ : Frame))).1)) + 3)).tdiv 4)))))) + 10), 0), rfl, aK, B.below⟩

end Go.Proofs.Ytginlmgkimfjmaa
set_option linter.unusedVariables false
set_option linter.unusedSimpArgs false
set_option maxRecDepth 100000
set_option maxHeartbeats 0
namespace Go.Proofs.Ytginlmgkimfjmaa
open Go.Sy Go.RowKit
theorem flongest_fun (u0 : Bool) (u1 : Bool) (u2 : Int)  (Z : Fz) (w : World)  (hZ : Z.on w) : Calls Try.prog 55 #[.bool u0, .bool u1, i6 u2] w fun e w' => e = .returned (.tuple #[i6 (flongestS u0 u1 u2).1, i6 (flongestS u0 u1 u2).2]) ∧ Below w.heap.size w w' :=
  (flongest_walk u0 u1 u2  Z w  hZ (flongest_ok u0 u1 u2)).mono fun _ _ ⟨r, he, hk, hb⟩ => ⟨by subst hk; exact he, hb⟩

theorem dlong_walk (u0 : Task)  (Z : Fz) (w : World)  (hZ : Z.on w) {K : Int → Prop} (hp : dlong_vc u0 K) : Calls Try.prog 81 #[.agg #[i6 u0.ID, i6 u0.Bytes, i6 u0.Every, i6 u0.Late, i6 u0.Jitter]] w fun e w' => ∃ r : Int, e = .returned (i6 r) ∧ K r ∧ Below w.heap.size w w' := by
 refine enter0 Try.func81 rfl rfl (by kernel_rfl) ?_; intro p c; have d := Mem.start w Z hZ; have q := Fz.le.refl Z
 refine sqH ?_; intro m f
 refine nw c d pb [i6 u0.ID, i6 u0.Bytes, i6 u0.Every, i6 u0.Late, i6 u0.Jitter] 34 ?_; intro s t u g a; clear c d
 refine s1 g 2 (i6 0) ?_; intro v h; clear g
 refine nlH (f _ _ ?_); clear f m
 refine sqH ?_; intro n i
 refine bt h a 2 [0] [] [(7, i6 u0.Bytes)] ?_; intro x j; clear h
 refine fc j a (flongest_fun false false u0.Bytes _ _ a.fz) ?_; intro y z k b; clear j a
 refine bt k b 5 [] [] [(3, i6 (flongestS false false u0.Bytes).1)] ?_; intro A l; clear k
 refine nlH (i _ _ ?_); clear i n
 refine sqB l b [] [] [(2, i6 (w64 ((flongestS false false u0.Bytes).1 + 3)))] ?_; intro B o; clear l
 refine wp_ret ?_
 refine ra1 o (i6 (w64 ((flongestS false false u0.Bytes).1 + 3))) ?_
 exact ⟨w64 ((flongestS false false u0.Bytes).1 + 3), rfl, hp, b.below⟩

end Go.Proofs.Ytginlmgkimfjmaa
set_option linter.unusedVariables false
set_option linter.unusedSimpArgs false
set_option maxRecDepth 100000
set_option maxHeartbeats 0
namespace Go.Proofs.Ytginlmgkimfjmaa
open Go.Sy Go.RowKit
theorem dlong_fun (u0 : Task)  (Z : Fz) (w : World)  (hZ : Z.on w) : Calls Try.prog 81 #[.agg #[i6 u0.ID, i6 u0.Bytes, i6 u0.Every, i6 u0.Late, i6 u0.Jitter]] w fun e w' => e = .returned (i6 (dlongS u0)) ∧ Below w.heap.size w w' :=
  (dlong_walk u0  Z w  hZ (dlong_ok u0)).mono fun _ _ ⟨r, he, hk, hb⟩ => ⟨by subst hk; exact he, hb⟩

theorem dtasks_walk   (Z : Fz) (w : World)  (hZ : Z.on w) {K : (List Task) → Prop} (hp : dtasks_vc  K) : Calls Try.prog 49 #[] w fun e w' => ∃ (r : (List Task)) (ao1001 : Option Addr) (cap1002 : Nat) (Z' : Fz), e = .returned (.slice ao1001 r.length cap1002) ∧ K r ∧ Mem w.heap.size [] w Z [.own tyTask 34 ao1001 cap1002 r] Z' w' := by
 refine enter0 Try.func49 rfl rfl (by kernel_rfl) ?_; intro o d; have a := Mem.start w Z hZ; have p := Fz.le.refl Z
 refine sqB d a [] [] [] ?_; intro q f; clear d
 refine sqH ?_; intro k g
 refine bt f a 2 [] [] [(1, .agg #[i6 1, i6 8, i6 1000, i6 1000, i6 0]), (2, .agg #[i6 2, i6 8, i6 1000, i6 1000, i6 0])] ?_; intro s h; clear f
 refine nw h a (fun b => .slice (sm b) 2 2) [i6 1, i6 8, i6 1000, i6 1000, i6 0, i6 2, i6 8, i6 1000, i6 1000, i6 0] 34 ?_; intro c t l i j; clear h a
 refine s1 i 0 (.slice (sm c) 2 2) ?_; intro u m; clear i
 refine nlH (g _ _ ?_); clear g k
 refine wp_ret ?_
 have n : Mem w.heap.size [] w Z [.own tyTask 34 (sm c) 2 ([(⟨1, 8, 1000, 1000, 0⟩ : Task), (⟨2, 8, 1000, 1000, 0⟩ : Task)] : List Task)] Z l := j.rowOwn (T := tyTask) (xs := ([(⟨1, 8, 1000, 1000, 0⟩ : Task), (⟨2, 8, 1000, 1000, 0⟩ : Task)] : List Task)) 0 rfl (by decide) (by show 2 ≤ lim; decide) ((RepAll.one (T := tyTask) (x := (⟨1, 8, 1000, 1000, 0⟩ : Task)) rfl).append (RepAll.one (T := tyTask) (x := (⟨2, 8, 1000, 1000, 0⟩ : Task)) rfl)); clear j
 refine ra1 m (.slice (sm c) ([(⟨1, 8, 1000, 1000, 0⟩ : Task), (⟨2, 8, 1000, 1000, 0⟩ : Task)] : List Task).length 2) ?_
 exact ⟨([(⟨1, 8, 1000, 1000, 0⟩ : Task), (⟨2, 8, 1000, 1000, 0⟩ : Task)] : List Task), (sm c), 2, Z, rfl, hp, n.keep (List.Sublist.cons_cons _ (List.Sublist.slnil))⟩

end Go.Proofs.Ytginlmgkimfjmaa
set_option linter.unusedVariables false
set_option linter.unusedSimpArgs false
set_option maxRecDepth 100000
set_option maxHeartbeats 0
namespace Go.Proofs.Ytginlmgkimfjmaa
open Go.Sy Go.RowKit
abbrev e110Dm (X : Job) : List Value := [i6 X.task, i6 X.from_, i6 X.asked]
theorem dtasks_fun   (Z : Fz) (w : World)  (hZ : Z.on w) : Calls Try.prog 49 #[] w fun e w' => ∃ (ao1001 : Option Addr) (cap1002 : Nat) (Z' : Fz), e = .returned (.slice ao1001 tasksS.length cap1002) ∧ Mem w.heap.size [] w Z [.own tyTask 34 ao1001 cap1002 tasksS] Z' w' :=
  (dtasks_walk   Z w  hZ (dtasks_ok )).mono fun _ _ ⟨r, h0, h1, h2, he, hk, hm⟩ => by subst hk; exact ⟨h0, h1, h2, he, hm⟩

theorem sins_walk (u0 : List Job) (u1 : Int) (u2 : Int) (u3 : Job → Job → Int) (ao1 : Option Addr) (cap2 : Nat) (fid3 : Nat) (caps4 : Array Value) (B : Nat) (w0 : World) (Z0 : Fz) (Rr : List Res) (Z : Fz) (w : World) (hf5 : ∀ (Z1 : Fz) (w1 : World), Z.le Z1 → Z1.on w1 → ∀ (x0 : Job) (x1 : Job), Calls Try.prog fid3 (#[.agg #[i6 x0.task, i6 x0.from_, i6 x0.asked], .agg #[i6 x1.task, i6 x1.from_, i6 x1.asked]] ++ caps4) w1 fun e w2 => e = .returned (i6 (u3 x0 x1)) ∧ Below w1.heap.size w1 w2) (hg6 : ∀ x w, Sem.run Try.prog (callFunc fid3 x) w = .ok (.enter fid3 x) w) (hM0 : Mem B [] w0 Z0 ((.own tyJob 110 ao1 cap2 u0) :: Rr) Z w) (hZ : Z.on w) {K : (List Job) → Prop} (hp : sins_vc u0 u1 u2 u3 K) : Calls Try.prog 111 #[.slice ao1 u0.length cap2, i6 u1, i6 u2, .func (.func fid3) #[] caps4] w fun e w' => ∃ (r : (List Job)) (Z' : Fz), e = .returned (.tuple #[]) ∧ K r ∧ Fz.le Z Z' ∧ (r.length = u0.length) ∧ Mem B [] w0 Z0 ((.own tyJob 110 ao1 cap2 r) :: Rr) Z' w' := by
 refine enter0 Try.func111 rfl rfl (by kernel_rfl) ?_; intro a0 bN; have y := Fz.le.refl Z
 have cP := hp (hM0.ownSmall 0 rfl); clear hp
 refine sqB bN hM0 [] [] [(8, i6 (w64 (u1 + 1)))] ?_; intro bO bP; clear bN
 refine wp_block ?_
 have bQ : Fr 53 [] [⟨0, [], .slice ao1 u0.length cap2⟩, ⟨1, [], i6 u1⟩, ⟨2, [], i6 u2⟩, ⟨3, [], .func (.func fid3) #[] caps4⟩, ⟨8, [], i6 (w64 (u1 + 1))⟩] bO := bP.reg; clear bP
 have bR : Fr 53 [] [⟨0, [], .slice ao1 u0.length cap2⟩, ⟨1, [], i6 u1⟩, ⟨2, [], i6 u2⟩, ⟨3, [], .func (.func fid3) #[] caps4⟩, ⟨8, [], i6 (w64 (u1 + 1))⟩] bO := bQ.reg; clear bQ
 obtain ⟨cQ, cR, cS, cT⟩ := cP
 refine lp (ι := Int × (List Job)) (fun s => [⟨0, [], .slice ao1 s.2.length cap2⟩, ⟨1, [], i6 u1⟩, ⟨2, [], i6 u2⟩, ⟨3, [], .func (.func fid3) #[] caps4⟩, ⟨8, [], i6 s.1⟩]) (fun s => ((.own tyJob 110 ao1 cap2 s.2) :: Rr)) (fun s => Z) (fun s => cQ s.1 s.2) (fun s => cR s.1 s.2) ⟨w64 (u1 + 1), u0⟩ cS (by exact bR.reg) (by exact hM0) ?_
 rintro ⟨x8, bo⟩ cU cV cW bS bT
 have bU : Fr 53 [] [⟨0, [], .slice ao1 bo.length cap2⟩, ⟨1, [], i6 u1⟩, ⟨2, [], i6 u2⟩, ⟨3, [], .func (.func fid3) #[] caps4⟩, ⟨8, [], i6 x8⟩] cV := bS; clear bS bR
 have bs : Mem B [] w0 Z0 ((.own tyJob 110 ao1 cap2 bo) :: Rr) Z cW := bT; clear bT hM0
 have bx := cT x8 bo cU
 refine wp_seq ?_
 refine sqB bU bs [] [] [(14, .bool (decide (x8 < u2)))] ?_; intro e8 bt; clear bU
 refine cd bt (t := decide (x8 < u2)) (by kernel_rfl) (fun bD => ?_) (fun bD => ?_)
 ·
  have cX := bx.1 bD; clear bx
  refine wp_skip ?_
  refine thn ?_
  refine wp_seq ?_
  refine wp_block ?_
  refine sqB bt bs [] [] [(9, i6 x8)] ?_; intro bV bW; clear bt
  refine wp_block ?_
  have bX : Fr 53 [] [⟨0, [], .slice ao1 bo.length cap2⟩, ⟨1, [], i6 u1⟩, ⟨2, [], i6 u2⟩, ⟨3, [], .func (.func fid3) #[] caps4⟩, ⟨8, [], i6 x8⟩, ⟨9, [], i6 x8⟩] bV := bW.reg; clear bW
  have bY : Fr 53 [] [⟨0, [], .slice ao1 bo.length cap2⟩, ⟨1, [], i6 u1⟩, ⟨2, [], i6 u2⟩, ⟨3, [], .func (.func fid3) #[] caps4⟩, ⟨8, [], i6 x8⟩, ⟨9, [], i6 x8⟩] bV := bX.reg; clear bX
  obtain ⟨cY, cZ, c0, c1⟩ := cX
  refine lp (ι := Int × (List Job)) (fun s => [⟨0, [], .slice ao1 s.2.length cap2⟩, ⟨1, [], i6 u1⟩, ⟨2, [], i6 u2⟩, ⟨3, [], .func (.func fid3) #[] caps4⟩, ⟨8, [], i6 x8⟩, ⟨9, [], i6 s.1⟩]) (fun s => ((.own tyJob 110 ao1 cap2 s.2) :: Rr)) (fun s => Z) (fun s => cY s.1 s.2) (fun s => cZ s.1 s.2) ⟨x8, bo⟩ c0 (by exact bY.reg) (by exact bs) ?_
  rintro ⟨f, g⟩ c2 ah c3 bZ b0
  have b1 : Fr 53 [] [⟨0, [], .slice ao1 g.length cap2⟩, ⟨1, [], i6 u1⟩, ⟨2, [], i6 u2⟩, ⟨3, [], .func (.func fid3) #[] caps4⟩, ⟨8, [], i6 x8⟩, ⟨9, [], i6 f⟩] ah := bZ; clear bZ bY
  have bE : Mem B [] w0 Z0 ((.own tyJob 110 ao1 cap2 g) :: Rr) Z c3 := b0; clear b0 bs
  have bz := c1 f g c2
  refine wp_seq ?_
  have bA : Fr 53 [] [⟨0, [], .slice ao1 g.length cap2⟩, ⟨1, [], i6 u1⟩, ⟨2, [], i6 u2⟩, ⟨3, [], .func (.func fid3) #[] caps4⟩, ⟨8, [], i6 x8⟩, ⟨9, [], i6 f⟩] ah := b1.reg; clear b1
  rcases Bool.eq_false_or_eq_true (decide (f > u1)) with bu | bu
  ·
   have c4 := bz.1 bu; clear bz
   have c5 : Fr 53 [] [⟨0, [], .slice ao1 g.length cap2⟩, ⟨1, [], i6 u1⟩, ⟨2, [], i6 u2⟩, ⟨3, [], .func (.func fid3) #[] caps4⟩, ⟨8, [], i6 x8⟩, ⟨9, [], i6 f⟩] ah := bA.reg; clear bA
   obtain ⟨c6, b2⟩ := c4
   obtain ⟨P, c7, c8⟩ := gxq b2 (by omega); clear b2
   obtain ⟨bF, b3⟩ := c8
   obtain ⟨n, bG, bB⟩ := gxq b3 (by omega); clear b3
   refine wp_seq (any_invE mixed [[], [], [0, 1], [2], [3], [3], [3], [3, 5, 6], [3, 7], [3], [3], [3, 10], [3, 9, 11], [3, 12], [3, 4, 8, 13], [3, 14], [3, 15]] 17 (fun S a w1 => ∃ (ad : Nat) (ae : Nat) (bv : Value) (bw : Value) (bq : Value) (bp : Value) (aJ : Value) (aY : Value) (aZ : Value) (aR : Value) (aK : Value) (a1 : Value) (a9 : Value) (a2 : Value) (aS : Value) (aL : Value) (az : Value) (ak : Value) (aj : Value) (ba : Res), Fz.le Z Z ∧ Fr 53 [] [⟨0, [], .slice ao1 g.length cap2⟩, ⟨1, [], i6 u1⟩, ⟨2, [], i6 u2⟩, ⟨3, [], .func (.func fid3) #[] caps4⟩, ⟨8, [], i6 x8⟩, ⟨9, [], i6 f⟩, ⟨18, [], bv⟩, ⟨19, [], bw⟩, ⟨20, [], bq⟩, ⟨21, [], bp⟩, ⟨22, [], aJ⟩, ⟨23, [], aY⟩, ⟨24, [], aZ⟩, ⟨25, [], aR⟩, ⟨26, [], aK⟩, ⟨27, [], a1⟩, ⟨28, [], a9⟩, ⟨29, [], a2⟩, ⟨30, [], aS⟩, ⟨31, [], aL⟩, ⟨32, [], az⟩, ⟨33, [], ak⟩, ⟨34, [], aj⟩] a ∧ Mem B [] w0 Z0 (ba :: Rr) Z w1 ∧ (S 0 = true → bv = i6 f) ∧ (S 1 = true → bw = i6 u1) ∧ (S 2 = true → bq = .bool true) ∧ (S 3 = true → bp = .bool true) ∧ (S 4 = true → aJ = .func (.func fid3) #[] caps4) ∧ (S 5 = true → aY = .slice ao1 g.length cap2) ∧ (S 6 = true → aZ = i6 f) ∧ (S 7 = true → aR = .pointer (some ⟨ad, f.toNat * 3, none⟩)) ∧ (S 8 = true → aK = .agg (e110Dm P).toArray) ∧ (S 9 = true → a1 = .slice ao1 g.length cap2) ∧ (S 10 = true → a9 = i6 f) ∧ (S 11 = true → a2 = i6 (w64 (f - 1))) ∧ (S 12 = true → aS = .pointer (some ⟨ae, (w64 (f - 1)).toNat * 3, none⟩)) ∧ (S 13 = true → aL = .agg (e110Dm n).toArray) ∧ (S 14 = true → az = i6 (u3 P n)) ∧ (S 15 = true → ak = .bool (decide ((u3 P n) < 0))) ∧ (S 16 = true → aj = .bool (decide ((u3 P n) < 0))) ∧ (ba = .own tyJob 110 ao1 cap2 g) ∧ (S 7 = true → ao1 = some ⟨ad, 0, none⟩) ∧ (S 12 = true → ao1 = some ⟨ae, 0, none⟩)) ?h0 ?hs ?hE)
   case h0 =>
    have c9 := c5.any 18
    have da := c9.any 19
    have db := da.any 20
    have dc := db.any 21
    have dd := dc.any 22
    have de := dd.any 23
    have df := de.any 24
    have dg := df.any 25
    have dh := dg.any 26
    have di := dh.any 27
    have dj := di.any 28
    have dk := dj.any 29
    have dl := dk.any 30
    have dm := dl.any 31
    have dn := dm.any 32
    have dp := dn.any 33
    have dq := dp.any 34
    have dr := (bE.perm lpr).drew
    exact ⟨0, 0, ah.tmps.getD 18 undef, ah.tmps.getD 19 undef, ah.tmps.getD 20 undef, ah.tmps.getD 21 undef, ah.tmps.getD 22 undef, ah.tmps.getD 23 undef, ah.tmps.getD 24 undef, ah.tmps.getD 25 undef, ah.tmps.getD 26 undef, ah.tmps.getD 27 undef, ah.tmps.getD 28 undef, ah.tmps.getD 29 undef, ah.tmps.getD 30 undef, ah.tmps.getD 31 undef, ah.tmps.getD 32 undef, ah.tmps.getD 33 undef, ah.tmps.getD 34 undef, .own tyJob 110 ao1 cap2 g, Fz.le.refl _, dq.reg, dr, ff, ff, ff, ff, ff, ff, ff, ff, ff, ff, ff, ff, ff, ff, ff, ff, ff, rfl, ff, ff⟩
   case hs =>
    intro S hcl i o hil hi hSi hpre a w1 hI; refine Go.Sy.hid ?_; intro G hG; obtain ⟨ad, ae, bv, bw, bq, bp, aJ, aY, aZ, aR, aK, a1, a9, a2, aS, aL, az, ak, aj, ba, V, hFx, hMx, aA, aB, aT, a3, bb, bc, bd, bi, bj, be, bf, bh, bk, bl, bC, bH, b4, Q, X, hI⟩ := hI; have Y := hI; clear hI
    have hcase : i = 0 ∨ i = 1 ∨ i = 2 ∨ i = 3 ∨ i = 4 ∨ i = 5 ∨ i = 6 ∨ i = 7 ∨ i = 8 ∨ i = 9 ∨ i = 10 ∨ i = 11 ∨ i = 12 ∨ i = 13 ∨ i = 14 ∨ i = 15 ∨ i = 16 := by clear hi; omega
    rcases hcase with rfl | rfl | rfl | rfl | rfl | rfl | rfl | rfl | rfl | rfl | rfl | rfl | rfl | rfl | rfl | rfl | rfl
    ·
     obtain rfl := oj hi
     have I := hSi
     have C := ngF hcl 2 0 I
     have j := ngF hcl 3 2 C
     have af := ngF hcl 4 3 j
     have R := ngF hcl 5 3 j
     have O := ngF hcl 6 3 j
     have D := ngF hcl 7 3 j
     have F := ngF hcl 8 3 j
     have N := ngF hcl 9 3 j
     have U := ngF hcl 10 3 j
     have M := ngF hcl 11 3 j
     have q := ngF hcl 12 3 j
     have H := ngF hcl 13 3 j
     have l := ngF hcl 14 3 j
     have m := ngF hcl 15 3 j
     have p := ngF hcl 16 3 j
     obtain rfl := Q
     refine hG (any_step ?_); clear hG G; intro A J hJ
     have y := Fz.le.trans y V
     refine s1 hFx 18 (i6 f) ?_; intro e9 ds; clear hFx
     refine nl (qnI (hJ _ _ ?_)); clear hJ J
     exact ⟨ad, ae, i6 f, bw, bq, bp, aJ, aY, aZ, aR, aK, a1, a9, a2, aS, aL, az, ak, aj, .own tyJob 110 ao1 cap2 g, V, ds.reg, hMx.perm lpr, kf, aB, (nt C), (nt j), (nt af), (nt R), (nt O), (nt D), (nt F), (nt N), (nt U), (nt M), (nt q), (nt H), (nt l), (nt m), (nt p), rfl, (nt D), (nt q)⟩
    ·
     obtain rfl := oj hi
     have L := hSi
     have C := ngF hcl 2 1 L
     have j := ngF hcl 3 2 C
     have af := ngF hcl 4 3 j
     have R := ngF hcl 5 3 j
     have O := ngF hcl 6 3 j
     have D := ngF hcl 7 3 j
     have F := ngF hcl 8 3 j
     have N := ngF hcl 9 3 j
     have U := ngF hcl 10 3 j
     have M := ngF hcl 11 3 j
     have q := ngF hcl 12 3 j
     have H := ngF hcl 13 3 j
     have l := ngF hcl 14 3 j
     have m := ngF hcl 15 3 j
     have p := ngF hcl 16 3 j
     obtain rfl := Q
     refine hG (any_step ?_); clear hG G; intro A J hJ
     have y := Fz.le.trans y V
     refine s1 hFx 19 (i6 u1) ?_; intro fa dt; clear hFx
     refine nl (qnI (hJ _ _ ?_)); clear hJ J
     exact ⟨ad, ae, bv, i6 u1, bq, bp, aJ, aY, aZ, aR, aK, a1, a9, a2, aS, aL, az, ak, aj, .own tyJob 110 ao1 cap2 g, V, dt.reg, hMx.perm lpr, aA, kf, (nt C), (nt j), (nt af), (nt R), (nt O), (nt D), (nt F), (nt N), (nt U), (nt M), (nt q), (nt H), (nt l), (nt m), (nt p), rfl, (nt D), (nt q)⟩
    ·
     obtain rfl := oj hi
     have L := hpre 1 (by kernel_rfl)
     have I := hpre 0 (by kernel_rfl)
     have C := hSi
     have j := ngF hcl 3 2 C
     have af := ngF hcl 4 3 j
     have R := ngF hcl 5 3 j
     have O := ngF hcl 6 3 j
     have D := ngF hcl 7 3 j
     have F := ngF hcl 8 3 j
     have N := ngF hcl 9 3 j
     have U := ngF hcl 10 3 j
     have M := ngF hcl 11 3 j
     have q := ngF hcl 12 3 j
     have H := ngF hcl 13 3 j
     have l := ngF hcl 14 3 j
     have m := ngF hcl 15 3 j
     have p := ngF hcl 16 3 j
     obtain rfl := aA I
     obtain rfl := aB L
     obtain rfl := Q
     refine hG (any_step ?_); clear hG G; intro A J hJ
     have y := Fz.le.trans y V
     refine s1 hFx 20 (.bool (decide (f > u1))) ?_; intro fb b5; clear hFx
     have du := b5.reval (d := 20) (c := []) (v := .bool (decide (f > u1))) (by kernel_rfl) (.bool true) (by rw [bu]); clear b5
     refine nl (qnI (hJ _ _ ?_)); clear hJ J
     exact ⟨ad, ae, i6 f, i6 u1, .bool true, bp, aJ, aY, aZ, aR, aK, a1, a9, a2, aS, aL, az, ak, aj, .own tyJob 110 ao1 cap2 g, V, du.reg, hMx.perm lpr, kf, kf, kf, (nt j), (nt af), (nt R), (nt O), (nt D), (nt F), (nt N), (nt U), (nt M), (nt q), (nt H), (nt l), (nt m), (nt p), rfl, (nt D), (nt q)⟩
    ·
     obtain rfl := oj hi
     have C := hpre 2 (by kernel_rfl)
     have L := hcl 2 1 (by kernel_rfl) C
     have I := hcl 2 0 (by kernel_rfl) C
     have j := hSi
     have af := ngF hcl 4 3 j
     have R := ngF hcl 5 3 j
     have O := ngF hcl 6 3 j
     have D := ngF hcl 7 3 j
     have F := ngF hcl 8 3 j
     have N := ngF hcl 9 3 j
     have U := ngF hcl 10 3 j
     have M := ngF hcl 11 3 j
     have q := ngF hcl 12 3 j
     have H := ngF hcl 13 3 j
     have l := ngF hcl 14 3 j
     have m := ngF hcl 15 3 j
     have p := ngF hcl 16 3 j
     obtain rfl := aA I
     obtain rfl := aB L
     obtain rfl := aT C
     obtain rfl := Q
     refine hG (any_step ?_); clear hG G; intro A J hJ
     have y := Fz.le.trans y V
     refine s1 hFx 21 (.bool true) ?_; intro fc dv; clear hFx
     refine nl (qnI (hJ _ _ ?_)); clear hJ J
     exact ⟨ad, ae, i6 f, i6 u1, .bool true, .bool true, aJ, aY, aZ, aR, aK, a1, a9, a2, aS, aL, az, ak, aj, .own tyJob 110 ao1 cap2 g, V, dv.reg, hMx.perm lpr, kf, kf, kf, kf, (nt af), (nt R), (nt O), (nt D), (nt F), (nt N), (nt U), (nt M), (nt q), (nt H), (nt l), (nt m), (nt p), rfl, (nt D), (nt q)⟩
    ·
     obtain rfl := oj hi
     have j := hpre 3 (by kernel_rfl)
     have C := hcl 3 2 (by kernel_rfl) j
     have L := hcl 2 1 (by kernel_rfl) C
     have I := hcl 2 0 (by kernel_rfl) C
     have af := hSi
     have l := ngF hcl 14 4 af
     have m := ngF hcl 15 14 l
     have p := ngF hcl 16 15 m
     obtain rfl := aA I
     obtain rfl := aB L
     obtain rfl := aT C
     obtain rfl := a3 j
     obtain rfl := Q
     refine hG (any_stepG ?_); clear hG G; intro J hJ
     have y := Fz.le.trans y V
     refine st hFx (.func (.func fid3) #[] caps4) (by rw [wanted_of hFx (b := true) rfl rfl (by kernel_rfl) (by kernel_rfl)]; rfl) rfl (by kernel_rfl) (p0 hFx (by kernel_rfl)) ?_; intro fd dw; clear hFx
     refine nl (qnI (hJ _ _ ?_)); clear hJ J
     exact ⟨ad, ae, i6 f, i6 u1, .bool true, .bool true, .func (.func fid3) #[] caps4, aY, aZ, aR, aK, a1, a9, a2, aS, aL, az, ak, aj, .own tyJob 110 ao1 cap2 g, V, dw.reg, hMx.perm lpr, kf, kf, kf, kf, kf, bc, bd, bi, bj, be, bf, bh, bk, bl, (nt l), (nt m), (nt p), rfl, X, Y⟩
    ·
     obtain rfl := oj hi
     have j := hpre 3 (by kernel_rfl)
     have C := hcl 3 2 (by kernel_rfl) j
     have L := hcl 2 1 (by kernel_rfl) C
     have I := hcl 2 0 (by kernel_rfl) C
     have R := hSi
     have D := ngF hcl 7 5 R
     have F := ngF hcl 8 7 D
     have l := ngF hcl 14 8 F
     have m := ngF hcl 15 14 l
     have p := ngF hcl 16 15 m
     obtain rfl := aA I
     obtain rfl := aB L
     obtain rfl := aT C
     obtain rfl := a3 j
     obtain rfl := Q
     refine hG (any_stepG ?_); clear hG G; intro J hJ
     have y := Fz.le.trans y V
     refine st hFx (.slice ao1 g.length cap2) (by rw [wanted_of hFx (b := true) rfl rfl (by kernel_rfl) (by kernel_rfl)]; rfl) rfl (by kernel_rfl) (p0 hFx (by kernel_rfl)) ?_; intro fe dx; clear hFx
     refine nl (qnI (hJ _ _ ?_)); clear hJ J
     exact ⟨ad, ae, i6 f, i6 u1, .bool true, .bool true, aJ, .slice ao1 g.length cap2, aZ, aR, aK, a1, a9, a2, aS, aL, az, ak, aj, .own tyJob 110 ao1 cap2 g, V, dx.reg, hMx.perm lpr, kf, kf, kf, kf, bb, kf, bd, (nt D), (nt F), be, bf, bh, bk, bl, (nt l), (nt m), (nt p), rfl, (nt D), Y⟩
    ·
     obtain rfl := oj hi
     have j := hpre 3 (by kernel_rfl)
     have C := hcl 3 2 (by kernel_rfl) j
     have L := hcl 2 1 (by kernel_rfl) C
     have I := hcl 2 0 (by kernel_rfl) C
     have O := hSi
     have D := ngF hcl 7 6 O
     have F := ngF hcl 8 7 D
     have l := ngF hcl 14 8 F
     have m := ngF hcl 15 14 l
     have p := ngF hcl 16 15 m
     obtain rfl := aA I
     obtain rfl := aB L
     obtain rfl := aT C
     obtain rfl := a3 j
     obtain rfl := Q
     refine hG (any_stepG ?_); clear hG G; intro J hJ
     have y := Fz.le.trans y V
     refine st hFx (i6 f) (by rw [wanted_of hFx (b := true) rfl rfl (by kernel_rfl) (by kernel_rfl)]; rfl) rfl (by kernel_rfl) (p0 hFx (by kernel_rfl)) ?_; intro fg dy; clear hFx
     refine nl (qnI (hJ _ _ ?_)); clear hJ J
     exact ⟨ad, ae, i6 f, i6 u1, .bool true, .bool true, aJ, aY, i6 f, aR, aK, a1, a9, a2, aS, aL, az, ak, aj, .own tyJob 110 ao1 cap2 g, V, dy.reg, hMx.perm lpr, kf, kf, kf, kf, bb, bc, kf, (nt D), (nt F), be, bf, bh, bk, bl, (nt l), (nt m), (nt p), rfl, (nt D), Y⟩
    ·
     obtain rfl := oj hi
     have O := hpre 6 (by kernel_rfl)
     have R := hpre 5 (by kernel_rfl)
     have j := hpre 3 (by kernel_rfl)
     have C := hcl 3 2 (by kernel_rfl) j
     have L := hcl 2 1 (by kernel_rfl) C
     have I := hcl 2 0 (by kernel_rfl) C
     have D := hSi
     have F := ngF hcl 8 7 D
     have l := ngF hcl 14 8 F
     have m := ngF hcl 15 14 l
     have p := ngF hcl 16 15 m
     obtain rfl := aA I
     obtain rfl := aB L
     obtain rfl := aT C
     obtain rfl := a3 j
     obtain rfl := bc R
     obtain rfl := bd O
     obtain rfl := Q
     refine hG (any_stepG ?_); clear hG G; intro J hJ
     have y := Fz.le.trans y V
     refine ixo hFx hMx 0 (T := tyJob) (xs := g) f (by simpa only [List.length_set] using c6) (k := .i64) (e := 110) (bytes := 24) (by rw [wanted_of hFx (b := true) rfl rfl (by kernel_rfl) (by kernel_rfl)]; rfl) rfl (by kernel_rfl) rfl (by kernel_rfl) (by kernel_rfl) rfl (by kernel_rfl) ?_; intro b6 fh dz dA; clear hFx
     refine nl (qnI (hJ _ _ ?_)); clear hJ J
     exact ⟨b6, ae, i6 f, i6 u1, .bool true, .bool true, aJ, .slice ao1 g.length cap2, i6 f, .pointer (some ⟨b6, f.toNat * 3, none⟩), aK, a1, a9, a2, aS, aL, az, ak, aj, .own tyJob 110 ao1 cap2 g, V, dA.reg, hMx.perm lpr, kf, kf, kf, kf, bb, kf, kf, kf, (nt F), be, bf, bh, bk, bl, (nt l), (nt m), (nt p), rfl, (fun _ => dz), Y⟩
    ·
     obtain rfl := oj hi
     have D := hpre 7 (by kernel_rfl)
     have j := hpre 3 (by kernel_rfl)
     have O := hcl 7 6 (by kernel_rfl) D
     have R := hcl 7 5 (by kernel_rfl) D
     have C := hcl 3 2 (by kernel_rfl) j
     have L := hcl 2 1 (by kernel_rfl) C
     have I := hcl 2 0 (by kernel_rfl) C
     have F := hSi
     have l := ngF hcl 14 8 F
     have m := ngF hcl 15 14 l
     have p := ngF hcl 16 15 m
     obtain rfl := aA I
     obtain rfl := aB L
     obtain rfl := aT C
     obtain rfl := a3 j
     obtain rfl := bc R
     obtain rfl := bd O
     obtain rfl := bi D
     obtain rfl := Q
     refine hG (any_stepG ?_); clear hG G; intro J hJ
     have y := Fz.le.trans y V
     have b7 := X D
     obtain ⟨dB, dC, dD⟩ := own_elx hMx 0 (T := tyJob) (xs := g) rfl b7 f.toNat c7
     obtain rfl : dB = ((e110Dm P) : List Value) := dC
     refine lc2 hFx 26 3 (e110Dm P) dD rfl ?_ (hw := (by rw [wanted_of hFx (b := true) rfl rfl (by kernel_rfl) (by kernel_rfl)]; rfl)); intro fi dE; clear hFx
     refine nl (qnI (hJ _ _ ?_)); clear hJ J
     exact ⟨ad, ae, i6 f, i6 u1, .bool true, .bool true, aJ, .slice ao1 g.length cap2, i6 f, .pointer (some ⟨ad, f.toNat * 3, none⟩), .agg (e110Dm P).toArray, a1, a9, a2, aS, aL, az, ak, aj, .own tyJob 110 ao1 cap2 g, V, dE.reg, hMx.perm lpr, kf, kf, kf, kf, bb, kf, kf, kf, kf, be, bf, bh, bk, bl, (nt l), (nt m), (nt p), rfl, (fun _ => b7), Y⟩
    ·
     obtain rfl := oj hi
     have j := hpre 3 (by kernel_rfl)
     have C := hcl 3 2 (by kernel_rfl) j
     have L := hcl 2 1 (by kernel_rfl) C
     have I := hcl 2 0 (by kernel_rfl) C
     have N := hSi
     have q := ngF hcl 12 9 N
     have H := ngF hcl 13 12 q
     have l := ngF hcl 14 13 H
     have m := ngF hcl 15 14 l
     have p := ngF hcl 16 15 m
     obtain rfl := aA I
     obtain rfl := aB L
     obtain rfl := aT C
     obtain rfl := a3 j
     obtain rfl := Q
     refine hG (any_stepG ?_); clear hG G; intro J hJ
     have y := Fz.le.trans y V
     refine st hFx (.slice ao1 g.length cap2) (by rw [wanted_of hFx (b := true) rfl rfl (by kernel_rfl) (by kernel_rfl)]; rfl) rfl (by kernel_rfl) (p0 hFx (by kernel_rfl)) ?_; intro fj dF; clear hFx
     refine nl (qnI (hJ _ _ ?_)); clear hJ J
     exact ⟨ad, ae, i6 f, i6 u1, .bool true, .bool true, aJ, aY, aZ, aR, aK, .slice ao1 g.length cap2, a9, a2, aS, aL, az, ak, aj, .own tyJob 110 ao1 cap2 g, V, dF.reg, hMx.perm lpr, kf, kf, kf, kf, bb, bc, bd, bi, bj, kf, bf, bh, (nt q), (nt H), (nt l), (nt m), (nt p), rfl, X, (nt q)⟩
    ·
     obtain rfl := oj hi
     have j := hpre 3 (by kernel_rfl)
     have C := hcl 3 2 (by kernel_rfl) j
     have L := hcl 2 1 (by kernel_rfl) C
     have I := hcl 2 0 (by kernel_rfl) C
     have U := hSi
     have M := ngF hcl 11 10 U
     have q := ngF hcl 12 11 M
     have H := ngF hcl 13 12 q
     have l := ngF hcl 14 13 H
     have m := ngF hcl 15 14 l
     have p := ngF hcl 16 15 m
     obtain rfl := aA I
     obtain rfl := aB L
     obtain rfl := aT C
     obtain rfl := a3 j
     obtain rfl := Q
     refine hG (any_stepG ?_); clear hG G; intro J hJ
     have y := Fz.le.trans y V
     refine st hFx (i6 f) (by rw [wanted_of hFx (b := true) rfl rfl (by kernel_rfl) (by kernel_rfl)]; rfl) rfl (by kernel_rfl) (p0 hFx (by kernel_rfl)) ?_; intro fk dG; clear hFx
     refine nl (qnI (hJ _ _ ?_)); clear hJ J
     exact ⟨ad, ae, i6 f, i6 u1, .bool true, .bool true, aJ, aY, aZ, aR, aK, a1, i6 f, a2, aS, aL, az, ak, aj, .own tyJob 110 ao1 cap2 g, V, dG.reg, hMx.perm lpr, kf, kf, kf, kf, bb, bc, bd, bi, bj, be, kf, (nt M), (nt q), (nt H), (nt l), (nt m), (nt p), rfl, X, (nt q)⟩
    ·
     obtain rfl := oj hi
     have U := hpre 10 (by kernel_rfl)
     have j := hpre 3 (by kernel_rfl)
     have C := hcl 3 2 (by kernel_rfl) j
     have L := hcl 2 1 (by kernel_rfl) C
     have I := hcl 2 0 (by kernel_rfl) C
     have M := hSi
     have q := ngF hcl 12 11 M
     have H := ngF hcl 13 12 q
     have l := ngF hcl 14 13 H
     have m := ngF hcl 15 14 l
     have p := ngF hcl 16 15 m
     obtain rfl := aA I
     obtain rfl := aB L
     obtain rfl := aT C
     obtain rfl := a3 j
     obtain rfl := bf U
     obtain rfl := Q
     refine hG (any_stepG ?_); clear hG G; intro J hJ
     have y := Fz.le.trans y V
     refine st hFx (i6 (w64 (f - 1))) (by rw [wanted_of hFx (b := true) rfl rfl (by kernel_rfl) (by kernel_rfl)]; rfl) rfl (by kernel_rfl) (p0 hFx (by kernel_rfl)) ?_; intro fl dH; clear hFx
     refine nl (qnI (hJ _ _ ?_)); clear hJ J
     exact ⟨ad, ae, i6 f, i6 u1, .bool true, .bool true, aJ, aY, aZ, aR, aK, a1, i6 f, i6 (w64 (f - 1)), aS, aL, az, ak, aj, .own tyJob 110 ao1 cap2 g, V, dH.reg, hMx.perm lpr, kf, kf, kf, kf, bb, bc, bd, bi, bj, be, kf, kf, (nt q), (nt H), (nt l), (nt m), (nt p), rfl, X, (nt q)⟩
    ·
     obtain rfl := oj hi
     have M := hpre 11 (by kernel_rfl)
     have N := hpre 9 (by kernel_rfl)
     have j := hpre 3 (by kernel_rfl)
     have U := hcl 11 10 (by kernel_rfl) M
     have C := hcl 3 2 (by kernel_rfl) j
     have L := hcl 2 1 (by kernel_rfl) C
     have I := hcl 2 0 (by kernel_rfl) C
     have q := hSi
     have H := ngF hcl 13 12 q
     have l := ngF hcl 14 13 H
     have m := ngF hcl 15 14 l
     have p := ngF hcl 16 15 m
     obtain rfl := aA I
     obtain rfl := aB L
     obtain rfl := aT C
     obtain rfl := a3 j
     obtain rfl := be N
     obtain rfl := bf U
     obtain rfl := bh M
     obtain rfl := Q
     refine hG (any_stepG ?_); clear hG G; intro J hJ
     have y := Fz.le.trans y V
     refine ixo hFx hMx 0 (T := tyJob) (xs := g) (w64 (f - 1)) (by simpa only [List.length_set] using bF) (k := .i64) (e := 110) (bytes := 24) (by rw [wanted_of hFx (b := true) rfl rfl (by kernel_rfl) (by kernel_rfl)]; rfl) rfl (by kernel_rfl) rfl (by kernel_rfl) (by kernel_rfl) rfl (by kernel_rfl) ?_; intro b8 fm dI dJ; clear hFx
     refine nl (qnI (hJ _ _ ?_)); clear hJ J
     exact ⟨ad, b8, i6 f, i6 u1, .bool true, .bool true, aJ, aY, aZ, aR, aK, .slice ao1 g.length cap2, i6 f, i6 (w64 (f - 1)), .pointer (some ⟨b8, (w64 (f - 1)).toNat * 3, none⟩), aL, az, ak, aj, .own tyJob 110 ao1 cap2 g, V, dJ.reg, hMx.perm lpr, kf, kf, kf, kf, bb, bc, bd, bi, bj, kf, kf, kf, kf, (nt H), (nt l), (nt m), (nt p), rfl, X, (fun _ => dI)⟩
    ·
     obtain rfl := oj hi
     have q := hpre 12 (by kernel_rfl)
     have j := hpre 3 (by kernel_rfl)
     have M := hcl 12 11 (by kernel_rfl) q
     have N := hcl 12 9 (by kernel_rfl) q
     have C := hcl 3 2 (by kernel_rfl) j
     have U := hcl 11 10 (by kernel_rfl) M
     have L := hcl 2 1 (by kernel_rfl) C
     have I := hcl 2 0 (by kernel_rfl) C
     have H := hSi
     have l := ngF hcl 14 13 H
     have m := ngF hcl 15 14 l
     have p := ngF hcl 16 15 m
     obtain rfl := aA I
     obtain rfl := aB L
     obtain rfl := aT C
     obtain rfl := a3 j
     obtain rfl := be N
     obtain rfl := bf U
     obtain rfl := bh M
     obtain rfl := bk q
     obtain rfl := Q
     refine hG (any_stepG ?_); clear hG G; intro J hJ
     have y := Fz.le.trans y V
     have b9 := Y q
     obtain ⟨dK, dL, dM⟩ := own_elx hMx 0 (T := tyJob) (xs := g) rfl b9 (w64 (f - 1)).toNat bG
     obtain rfl : dK = ((e110Dm n) : List Value) := dL
     refine lc2 hFx 31 3 (e110Dm n) dM rfl ?_ (hw := (by rw [wanted_of hFx (b := true) rfl rfl (by kernel_rfl) (by kernel_rfl)]; rfl)); intro fo dN; clear hFx
     refine nl (qnI (hJ _ _ ?_)); clear hJ J
     exact ⟨ad, ae, i6 f, i6 u1, .bool true, .bool true, aJ, aY, aZ, aR, aK, .slice ao1 g.length cap2, i6 f, i6 (w64 (f - 1)), .pointer (some ⟨ae, (w64 (f - 1)).toNat * 3, none⟩), .agg (e110Dm n).toArray, az, ak, aj, .own tyJob 110 ao1 cap2 g, V, dN.reg, hMx.perm lpr, kf, kf, kf, kf, bb, bc, bd, bi, bj, kf, kf, kf, kf, kf, (nt l), (nt m), (nt p), rfl, X, (fun _ => b9)⟩
    ·
     obtain rfl := oj hi
     have H := hpre 13 (by kernel_rfl)
     have F := hpre 8 (by kernel_rfl)
     have af := hpre 4 (by kernel_rfl)
     have j := hpre 3 (by kernel_rfl)
     have q := hcl 13 12 (by kernel_rfl) H
     have D := hcl 8 7 (by kernel_rfl) F
     have C := hcl 3 2 (by kernel_rfl) j
     have M := hcl 12 11 (by kernel_rfl) q
     have N := hcl 12 9 (by kernel_rfl) q
     have O := hcl 7 6 (by kernel_rfl) D
     have R := hcl 7 5 (by kernel_rfl) D
     have L := hcl 2 1 (by kernel_rfl) C
     have I := hcl 2 0 (by kernel_rfl) C
     have U := hcl 11 10 (by kernel_rfl) M
     have l := hSi
     have m := ngF hcl 15 14 l
     have p := ngF hcl 16 15 m
     obtain rfl := aA I
     obtain rfl := aB L
     obtain rfl := aT C
     obtain rfl := a3 j
     obtain rfl := bb af
     obtain rfl := bc R
     obtain rfl := bd O
     obtain rfl := bi D
     obtain rfl := bj F
     obtain rfl := be N
     obtain rfl := bf U
     obtain rfl := bh M
     obtain rfl := bk q
     obtain rfl := bl H
     obtain rfl := Q
     refine hG (any_stepG ?_); clear hG G; intro J hJ
     have y := Fz.le.trans y V
     have dO := X D
     have dP := Y q
     have dQ := hf5 _ _ y hMx.fz P n
     refine fcl hFx hMx (i6 (u3 P n)) fid3 (#[.agg (e110Dm P).toArray, .agg (e110Dm n).toArray] ++ caps4) (by rw [wanted_of hFx (b := true) rfl rfl (by kernel_rfl) (by kernel_rfl)]; rfl) rfl (by kernel_rfl) ?h1 ?h2 ?_
     case h1 => exact fv_run rfl (by kernel_rfl) (by kernel_rfl) hg6
     case h2 => exact dQ
     intro fp fq dR dS; clear hFx hMx
     refine nl (qnI (hJ _ _ ?_)); clear hJ J
     exact ⟨ad, ae, i6 f, i6 u1, .bool true, .bool true, .func (.func fid3) #[] caps4, .slice ao1 g.length cap2, i6 f, .pointer (some ⟨ad, f.toNat * 3, none⟩), .agg (e110Dm P).toArray, .slice ao1 g.length cap2, i6 f, i6 (w64 (f - 1)), .pointer (some ⟨ae, (w64 (f - 1)).toNat * 3, none⟩), .agg (e110Dm n).toArray, i6 (u3 P n), ak, aj, .own tyJob 110 ao1 cap2 g, V, dR.reg, dS.perm lpr, kf, kf, kf, kf, kf, kf, kf, kf, kf, kf, kf, kf, kf, kf, kf, (nt m), (nt p), rfl, (fun _ => dO), (fun _ => dP)⟩
    ·
     obtain rfl := oj hi
     have l := hpre 14 (by kernel_rfl)
     have j := hpre 3 (by kernel_rfl)
     have H := hcl 14 13 (by kernel_rfl) l
     have F := hcl 14 8 (by kernel_rfl) l
     have af := hcl 14 4 (by kernel_rfl) l
     have C := hcl 3 2 (by kernel_rfl) j
     have q := hcl 13 12 (by kernel_rfl) H
     have D := hcl 8 7 (by kernel_rfl) F
     have L := hcl 2 1 (by kernel_rfl) C
     have I := hcl 2 0 (by kernel_rfl) C
     have M := hcl 12 11 (by kernel_rfl) q
     have N := hcl 12 9 (by kernel_rfl) q
     have O := hcl 7 6 (by kernel_rfl) D
     have R := hcl 7 5 (by kernel_rfl) D
     have U := hcl 11 10 (by kernel_rfl) M
     have m := hSi
     have p := ngF hcl 16 15 m
     obtain rfl := aA I
     obtain rfl := aB L
     obtain rfl := aT C
     obtain rfl := a3 j
     obtain rfl := bb af
     obtain rfl := bc R
     obtain rfl := bd O
     obtain rfl := bi D
     obtain rfl := bj F
     obtain rfl := be N
     obtain rfl := bf U
     obtain rfl := bh M
     obtain rfl := bk q
     obtain rfl := bl H
     obtain rfl := bC l
     obtain rfl := Q
     refine hG (any_stepG ?_); clear hG G; intro J hJ
     have y := Fz.le.trans y V
     have dT := X D
     have dU := Y q
     refine st hFx (.bool (decide ((u3 P n) < 0))) (by rw [wanted_of hFx (b := true) rfl rfl (by kernel_rfl) (by kernel_rfl)]; rfl) rfl (by kernel_rfl) (p0 hFx (by kernel_rfl)) ?_; intro fr dV; clear hFx
     refine nl (qnI (hJ _ _ ?_)); clear hJ J
     exact ⟨ad, ae, i6 f, i6 u1, .bool true, .bool true, .func (.func fid3) #[] caps4, .slice ao1 g.length cap2, i6 f, .pointer (some ⟨ad, f.toNat * 3, none⟩), .agg (e110Dm P).toArray, .slice ao1 g.length cap2, i6 f, i6 (w64 (f - 1)), .pointer (some ⟨ae, (w64 (f - 1)).toNat * 3, none⟩), .agg (e110Dm n).toArray, i6 (u3 P n), .bool (decide ((u3 P n) < 0)), aj, .own tyJob 110 ao1 cap2 g, V, dV.reg, hMx.perm lpr, kf, kf, kf, kf, kf, kf, kf, kf, kf, kf, kf, kf, kf, kf, kf, kf, (nt p), rfl, (fun _ => dT), (fun _ => dU)⟩
    obtain rfl := oj hi
    have m := hpre 15 (by kernel_rfl)
    have j := hpre 3 (by kernel_rfl)
    have l := hcl 15 14 (by kernel_rfl) m
    have C := hcl 3 2 (by kernel_rfl) j
    have H := hcl 14 13 (by kernel_rfl) l
    have F := hcl 14 8 (by kernel_rfl) l
    have af := hcl 14 4 (by kernel_rfl) l
    have L := hcl 2 1 (by kernel_rfl) C
    have I := hcl 2 0 (by kernel_rfl) C
    have q := hcl 13 12 (by kernel_rfl) H
    have D := hcl 8 7 (by kernel_rfl) F
    have M := hcl 12 11 (by kernel_rfl) q
    have N := hcl 12 9 (by kernel_rfl) q
    have O := hcl 7 6 (by kernel_rfl) D
    have R := hcl 7 5 (by kernel_rfl) D
    have U := hcl 11 10 (by kernel_rfl) M
    have p := hSi
    obtain rfl := aA I
    obtain rfl := aB L
    obtain rfl := aT C
    obtain rfl := a3 j
    obtain rfl := bb af
    obtain rfl := bc R
    obtain rfl := bd O
    obtain rfl := bi D
    obtain rfl := bj F
    obtain rfl := be N
    obtain rfl := bf U
    obtain rfl := bh M
    obtain rfl := bk q
    obtain rfl := bl H
    obtain rfl := bC l
    obtain rfl := bH m
    obtain rfl := Q
    refine hG (any_step ?_); clear hG G; intro A J hJ
    have y := Fz.le.trans y V
    have dW := X D
    have dX := Y q
    refine s1 hFx 34 (.bool (decide ((u3 P n) < 0))) ?_; intro fs dY; clear hFx
    refine nl (qnI (hJ _ _ ?_)); clear hJ J
    exact ⟨ad, ae, i6 f, i6 u1, .bool true, .bool true, .func (.func fid3) #[] caps4, .slice ao1 g.length cap2, i6 f, .pointer (some ⟨ad, f.toNat * 3, none⟩), .agg (e110Dm P).toArray, .slice ao1 g.length cap2, i6 f, i6 (w64 (f - 1)), .pointer (some ⟨ae, (w64 (f - 1)).toNat * 3, none⟩), .agg (e110Dm n).toArray, i6 (u3 P n), .bool (decide ((u3 P n) < 0)), .bool (decide ((u3 P n) < 0)), .own tyJob 110 ao1 cap2 g, V, dY.reg, hMx.perm lpr, kf, kf, kf, kf, kf, kf, kf, kf, kf, kf, kf, kf, kf, kf, kf, kf, kf, rfl, (fun _ => dW), (fun _ => dX)⟩
   case hE =>
    intro S hS aC ft hI; refine Go.Sy.hid ?_; intro G hG; obtain ⟨ad, ae, bv, bw, bq, bp, aJ, aY, aZ, aR, aK, a1, a9, a2, aS, aL, az, ak, aj, ba, V, hFx, hMx, aA, aB, aT, a3, bb, bc, bd, bi, bj, be, bf, bh, bk, bl, bC, bH, b4, Q, X, hI⟩ := hI; have Y := hI; clear hI; refine hG ?_; clear hG G
    obtain rfl := aA (hS 0 (by decide))
    obtain rfl := aB (hS 1 (by decide))
    obtain rfl := aT (hS 2 (by decide))
    obtain rfl := a3 (hS 3 (by decide))
    obtain rfl := bb (hS 4 (by decide))
    obtain rfl := bc (hS 5 (by decide))
    obtain rfl := bd (hS 6 (by decide))
    obtain rfl := bi (hS 7 (by decide))
    obtain rfl := bj (hS 8 (by decide))
    obtain rfl := be (hS 9 (by decide))
    obtain rfl := bf (hS 10 (by decide))
    obtain rfl := bh (hS 11 (by decide))
    obtain rfl := bk (hS 12 (by decide))
    obtain rfl := bl (hS 13 (by decide))
    obtain rfl := bC (hS 14 (by decide))
    obtain rfl := bH (hS 15 (by decide))
    obtain rfl := b4 (hS 16 (by decide))
    obtain rfl := Q
    have y := Fz.le.trans y V
    have al := X (hS 7 (by decide))
    have am := Y (hS 12 (by decide))
    refine thn ?_
    refine cd hFx (t := decide ((u3 P n) < 0)) (by kernel_rfl) (fun bI => ?_) (fun bI => ?_)
    ·
     have dZ := bB.1 bI; clear bB
     refine wp_skip ?_
     refine thn ?_
     refine wp_seq ?_
     refine wp_block ?_
     have d0 : Fr 53 [] [⟨0, [], .slice ao1 g.length cap2⟩, ⟨1, [], i6 u1⟩, ⟨2, [], i6 u2⟩, ⟨3, [], .func (.func fid3) #[] caps4⟩, ⟨8, [], i6 x8⟩, ⟨9, [], i6 f⟩] aC := hFx.reg; clear hFx
     obtain ⟨d1, ca⟩ := dZ
     obtain ⟨E, d2, d3⟩ := gxq ca (by omega); clear ca
     obtain ⟨bF, cb⟩ := d3
     obtain ⟨n, bG, d4⟩ := gxq cb (by omega); clear cb
     obtain ⟨d5, d6⟩ := d4
     obtain ⟨d7, cc⟩ := d6
     refine any_invE mixed [[], [], [], [], [3], [], [], [6], [5, 7], [8], [], [], [10, 11], [12], [0, 1, 5, 6, 7, 8, 9, 13], [0, 1, 5, 6, 7, 8, 9, 13, 14], [0, 1, 2, 3, 4, 5, 6, 7, 8, 9, 10, 11, 12, 13, 14, 15], [0, 1, 2, 3, 4, 5, 6, 7, 8, 9, 10, 11, 12, 13, 14, 15, 16]] 18 (fun S a w1 => ∃ (aa : Nat) (ab : Nat) (ac : Nat) (ag : Nat) (aM : Value) (aN : Value) (an : Value) (aD : Value) (ao : Value) (a4 : Value) (bg : Value) (a5 : Value) (aU : Value) (aO : Value) (a6 : Value) (a7 : Value) (aV : Value) (aP : Value) (aE : Value) (ai : Value) (ba : Res), Fz.le Z Z ∧ Fr 53 [] [⟨0, [], .slice ao1 g.length cap2⟩, ⟨1, [], i6 u1⟩, ⟨2, [], i6 u2⟩, ⟨3, [], .func (.func fid3) #[] caps4⟩, ⟨8, [], i6 x8⟩, ⟨9, [], i6 f⟩, ⟨37, [], aM⟩, ⟨38, [], aN⟩, ⟨39, [], an⟩, ⟨40, [], aD⟩, ⟨41, [], ao⟩, ⟨42, [], a4⟩, ⟨43, [], bg⟩, ⟨44, [], a5⟩, ⟨45, [], aU⟩, ⟨46, [], aO⟩, ⟨47, [], a6⟩, ⟨48, [], a7⟩, ⟨49, [], aV⟩, ⟨50, [], aP⟩, ⟨51, [], aE⟩, ⟨52, [], ai⟩] a ∧ Mem B [] w0 Z0 (ba :: Rr) Z w1 ∧ (S 0 = true → aM = .slice ao1 g.length cap2) ∧ (S 1 = true → aN = i6 f) ∧ (S 2 = true → an = .slice ao1 g.length cap2) ∧ (S 3 = true → aD = i6 f) ∧ (S 4 = true → ao = i6 (w64 (f - 1))) ∧ (S 5 = true → a4 = .slice ao1 g.length cap2) ∧ (S 6 = true → bg = i6 f) ∧ (S 7 = true → a5 = i6 (w64 (f - 1))) ∧ (S 8 = true → aU = .pointer (some ⟨aa, (w64 (f - 1)).toNat * 3, none⟩)) ∧ (S 9 = true → aO = .agg (e110Dm E).toArray) ∧ (S 10 = true → a6 = .slice ao1 g.length cap2) ∧ (S 11 = true → a7 = i6 f) ∧ (S 12 = true → aV = .pointer (some ⟨ab, f.toNat * 3, none⟩)) ∧ (S 13 = true → aP = .agg (e110Dm n).toArray) ∧ (S 14 = true → aE = .pointer (some ⟨ac, f.toNat * 3, none⟩)) ∧ (S 16 = true → ai = .pointer (some ⟨ag, (w64 (f - 1)).toNat * 3, none⟩)) ∧ (S 15 = false → ba = .own tyJob 110 ao1 cap2 g) ∧ (S 15 = true → S 17 = false → ba = .own tyJob 110 ao1 cap2 (g.set f.toNat E)) ∧ (S 17 = true → ba = .own tyJob 110 ao1 cap2 ((g.set f.toNat E).set (w64 (f - 1)).toNat n)) ∧ (S 8 = true → ao1 = some ⟨aa, 0, none⟩) ∧ (S 12 = true → ao1 = some ⟨ab, 0, none⟩) ∧ (S 14 = true → ao1 = some ⟨ac, 0, none⟩) ∧ (S 16 = true → ao1 = some ⟨ag, 0, none⟩)) ?h0 ?hs ?hE
     case h0 =>
      have d8 := d0.any 37
      have d9 := d8.any 38
      have ea := d9.any 39
      have eb := ea.any 40
      have ec := eb.any 41
      have ed := ec.any 42
      have ee := ed.any 43
      have ef := ee.any 44
      have eg := ef.any 45
      have eh := eg.any 46
      have ei := eh.any 47
      have ej := ei.any 48
      have ek := ej.any 49
      have el := ek.any 50
      have em := el.any 51
      have en := em.any 52
      have eo := (hMx.perm lpr).drew
      exact ⟨0, 0, 0, 0, aC.tmps.getD 37 undef, aC.tmps.getD 38 undef, aC.tmps.getD 39 undef, aC.tmps.getD 40 undef, aC.tmps.getD 41 undef, aC.tmps.getD 42 undef, aC.tmps.getD 43 undef, aC.tmps.getD 44 undef, aC.tmps.getD 45 undef, aC.tmps.getD 46 undef, aC.tmps.getD 47 undef, aC.tmps.getD 48 undef, aC.tmps.getD 49 undef, aC.tmps.getD 50 undef, aC.tmps.getD 51 undef, aC.tmps.getD 52 undef, .own tyJob 110 ao1 cap2 g, Fz.le.refl _, en.reg, eo, ff, ff, ff, ff, ff, ff, ff, ff, ff, ff, ff, ff, ff, ff, ff, ff, kf, ff, ff, ff, ff, ff, ff⟩
     case hs =>
      intro S hcl i o hil hi hSi hpre a w1 hI; refine Go.Sy.hid ?_; intro G hG; obtain ⟨aa, ab, ac, ag, aM, aN, an, aD, ao, a4, bg, a5, aU, aO, a6, a7, aV, aP, aE, ai, ba, z, hFx, hMx, ap, aq, ar, au, aF, av, aw, aG, aW, a8, ax, ay, aQ, aX, bm, bJ, Q, br, ce, X, Y, bn, hI⟩ := hI; have bK := hI; clear hI
      have hcase : i = 0 ∨ i = 1 ∨ i = 2 ∨ i = 3 ∨ i = 4 ∨ i = 5 ∨ i = 6 ∨ i = 7 ∨ i = 8 ∨ i = 9 ∨ i = 10 ∨ i = 11 ∨ i = 12 ∨ i = 13 ∨ i = 14 ∨ i = 15 ∨ i = 16 ∨ i = 17 := by clear hi; omega
      rcases hcase with rfl | rfl | rfl | rfl | rfl | rfl | rfl | rfl | rfl | rfl | rfl | rfl | rfl | rfl | rfl | rfl | rfl | rfl
      ·
       obtain rfl := oj hi
       have I := hSi
       have l := ngF hcl 14 0 I
       have m := ngF hcl 15 0 I
       have p := ngF hcl 16 0 I
       have W := ngF hcl 17 0 I
       obtain rfl := Q m
       refine hG (any_step ?_); clear hG G; intro A J hJ
       have y := Fz.le.trans y z
       have fu := al.mono z
       have fv := am.mono z
       refine s1 hFx 37 (.slice ao1 g.length cap2) ?_; intro fw ep; clear hFx
       refine nl (qnI (hJ _ _ ?_)); clear hJ J
       exact ⟨aa, ab, ac, ag, .slice ao1 g.length cap2, aN, an, aD, ao, a4, bg, a5, aU, aO, a6, a7, aV, aP, aE, ai, .own tyJob 110 ao1 cap2 g, z, ep.reg, hMx.perm lpr, kf, aq, ar, au, aF, av, aw, aG, aW, a8, ax, ay, aQ, aX, (nt l), (nt p), kf, (fun h _ => nt m h), (nt W), X, Y, (nt l), (nt p)⟩
      ·
       obtain rfl := oj hi
       have L := hSi
       have l := ngF hcl 14 1 L
       have m := ngF hcl 15 1 L
       have p := ngF hcl 16 1 L
       have W := ngF hcl 17 1 L
       obtain rfl := Q m
       refine hG (any_step ?_); clear hG G; intro A J hJ
       have y := Fz.le.trans y z
       have fx := al.mono z
       have fy := am.mono z
       refine s1 hFx 38 (i6 f) ?_; intro fA eq; clear hFx
       refine nl (qnI (hJ _ _ ?_)); clear hJ J
       exact ⟨aa, ab, ac, ag, aM, i6 f, an, aD, ao, a4, bg, a5, aU, aO, a6, a7, aV, aP, aE, ai, .own tyJob 110 ao1 cap2 g, z, eq.reg, hMx.perm lpr, ap, kf, ar, au, aF, av, aw, aG, aW, a8, ax, ay, aQ, aX, (nt l), (nt p), kf, (fun h _ => nt m h), (nt W), X, Y, (nt l), (nt p)⟩
      ·
       obtain rfl := oj hi
       have C := hSi
       have p := ngF hcl 16 2 C
       have W := ngF hcl 17 2 C
       refine hG (any_step ?_); clear hG G; intro A J hJ
       have y := Fz.le.trans y z
       have fB := al.mono z
       have fC := am.mono z
       refine s1 hFx 39 (.slice ao1 g.length cap2) ?_; intro fD er; clear hFx
       refine nl (qnI (hJ _ _ ?_)); clear hJ J
       exact ⟨aa, ab, ac, ag, aM, aN, .slice ao1 g.length cap2, aD, ao, a4, bg, a5, aU, aO, a6, a7, aV, aP, aE, ai, ba, z, er.reg, hMx.perm lpr, ap, aq, kf, au, aF, av, aw, aG, aW, a8, ax, ay, aQ, aX, bm, (nt p), Q, br, (nt W), X, Y, bn, (nt p)⟩
      ·
       obtain rfl := oj hi
       have j := hSi
       have af := ngF hcl 4 3 j
       have p := ngF hcl 16 3 j
       have W := ngF hcl 17 3 j
       refine hG (any_step ?_); clear hG G; intro A J hJ
       have y := Fz.le.trans y z
       have fE := al.mono z
       have fF := am.mono z
       refine s1 hFx 40 (i6 f) ?_; intro fG es; clear hFx
       refine nl (qnI (hJ _ _ ?_)); clear hJ J
       exact ⟨aa, ab, ac, ag, aM, aN, an, i6 f, ao, a4, bg, a5, aU, aO, a6, a7, aV, aP, aE, ai, ba, z, es.reg, hMx.perm lpr, ap, aq, ar, kf, (nt af), av, aw, aG, aW, a8, ax, ay, aQ, aX, bm, (nt p), Q, br, (nt W), X, Y, bn, (nt p)⟩
      ·
       obtain rfl := oj hi
       have j := hpre 3 (by kernel_rfl)
       have af := hSi
       have p := ngF hcl 16 4 af
       have W := ngF hcl 17 4 af
       obtain rfl := au j
       refine hG (any_step ?_); clear hG G; intro A J hJ
       have y := Fz.le.trans y z
       have fH := al.mono z
       have fI := am.mono z
       refine s1 hFx 41 (i6 (w64 (f - 1))) ?_; intro fJ et; clear hFx
       refine nl (qnI (hJ _ _ ?_)); clear hJ J
       exact ⟨aa, ab, ac, ag, aM, aN, an, i6 f, i6 (w64 (f - 1)), a4, bg, a5, aU, aO, a6, a7, aV, aP, aE, ai, ba, z, et.reg, hMx.perm lpr, ap, aq, ar, kf, kf, av, aw, aG, aW, a8, ax, ay, aQ, aX, bm, (nt p), Q, br, (nt W), X, Y, bn, (nt p)⟩
      ·
       obtain rfl := oj hi
       have R := hSi
       have F := ngF hcl 8 5 R
       have N := ngF hcl 9 8 F
       have l := ngF hcl 14 5 R
       have m := ngF hcl 15 5 R
       have p := ngF hcl 16 5 R
       have W := ngF hcl 17 5 R
       obtain rfl := Q m
       refine hG (any_step ?_); clear hG G; intro A J hJ
       have y := Fz.le.trans y z
       have fK := al.mono z
       have fL := am.mono z
       refine s1 hFx 42 (.slice ao1 g.length cap2) ?_; intro fM eu; clear hFx
       refine nl (qnI (hJ _ _ ?_)); clear hJ J
       exact ⟨aa, ab, ac, ag, aM, aN, an, aD, ao, .slice ao1 g.length cap2, bg, a5, aU, aO, a6, a7, aV, aP, aE, ai, .own tyJob 110 ao1 cap2 g, z, eu.reg, hMx.perm lpr, ap, aq, ar, au, aF, kf, aw, aG, (nt F), (nt N), ax, ay, aQ, aX, (nt l), (nt p), kf, (fun h _ => nt m h), (nt W), (nt F), Y, (nt l), (nt p)⟩
      ·
       obtain rfl := oj hi
       have O := hSi
       have D := ngF hcl 7 6 O
       have F := ngF hcl 8 7 D
       have N := ngF hcl 9 8 F
       have l := ngF hcl 14 6 O
       have m := ngF hcl 15 6 O
       have p := ngF hcl 16 6 O
       have W := ngF hcl 17 6 O
       obtain rfl := Q m
       refine hG (any_step ?_); clear hG G; intro A J hJ
       have y := Fz.le.trans y z
       have fN := al.mono z
       have fO := am.mono z
       refine s1 hFx 43 (i6 f) ?_; intro fP ev; clear hFx
       refine nl (qnI (hJ _ _ ?_)); clear hJ J
       exact ⟨aa, ab, ac, ag, aM, aN, an, aD, ao, a4, i6 f, a5, aU, aO, a6, a7, aV, aP, aE, ai, .own tyJob 110 ao1 cap2 g, z, ev.reg, hMx.perm lpr, ap, aq, ar, au, aF, av, kf, (nt D), (nt F), (nt N), ax, ay, aQ, aX, (nt l), (nt p), kf, (fun h _ => nt m h), (nt W), (nt F), Y, (nt l), (nt p)⟩
      ·
       obtain rfl := oj hi
       have O := hpre 6 (by kernel_rfl)
       have D := hSi
       have F := ngF hcl 8 7 D
       have N := ngF hcl 9 8 F
       have l := ngF hcl 14 7 D
       have m := ngF hcl 15 7 D
       have p := ngF hcl 16 7 D
       have W := ngF hcl 17 7 D
       obtain rfl := aw O
       obtain rfl := Q m
       refine hG (any_step ?_); clear hG G; intro A J hJ
       have y := Fz.le.trans y z
       have fQ := al.mono z
       have fR := am.mono z
       refine s1 hFx 44 (i6 (w64 (f - 1))) ?_; intro fS ew; clear hFx
       refine nl (qnI (hJ _ _ ?_)); clear hJ J
       exact ⟨aa, ab, ac, ag, aM, aN, an, aD, ao, a4, i6 f, i6 (w64 (f - 1)), aU, aO, a6, a7, aV, aP, aE, ai, .own tyJob 110 ao1 cap2 g, z, ew.reg, hMx.perm lpr, ap, aq, ar, au, aF, av, kf, kf, (nt F), (nt N), ax, ay, aQ, aX, (nt l), (nt p), kf, (fun h _ => nt m h), (nt W), (nt F), Y, (nt l), (nt p)⟩
      ·
       obtain rfl := oj hi
       have D := hpre 7 (by kernel_rfl)
       have R := hpre 5 (by kernel_rfl)
       have O := hcl 7 6 (by kernel_rfl) D
       have F := hSi
       have N := ngF hcl 9 8 F
       have l := ngF hcl 14 8 F
       have m := ngF hcl 15 8 F
       have p := ngF hcl 16 8 F
       have W := ngF hcl 17 8 F
       obtain rfl := av R
       obtain rfl := aw O
       obtain rfl := aG D
       obtain rfl := Q m
       refine hG (any_step ?_); clear hG G; intro A J hJ
       have y := Fz.le.trans y z
       have fT := al.mono z
       have fU := am.mono z
       refine ixo hFx hMx 0 (T := tyJob) (xs := g) (w64 (f - 1)) (by simpa only [List.length_set] using d1) (k := .i64) (e := 110) (bytes := 24) (nog rfl _) rfl (by kernel_rfl) rfl (by kernel_rfl) (by kernel_rfl) rfl (by kernel_rfl) ?_; intro cf fV ex ey; clear hFx
       refine nl (qnI (hJ _ _ ?_)); clear hJ J
       exact ⟨cf, ab, ac, ag, aM, aN, an, aD, ao, .slice ao1 g.length cap2, i6 f, i6 (w64 (f - 1)), .pointer (some ⟨cf, (w64 (f - 1)).toNat * 3, none⟩), aO, a6, a7, aV, aP, aE, ai, .own tyJob 110 ao1 cap2 g, z, ey.reg, hMx.perm lpr, ap, aq, ar, au, aF, kf, kf, kf, kf, (nt N), ax, ay, aQ, aX, (nt l), (nt p), kf, (fun h _ => nt m h), (nt W), (fun _ => ex), Y, (nt l), (nt p)⟩
      ·
       obtain rfl := oj hi
       have F := hpre 8 (by kernel_rfl)
       have D := hcl 8 7 (by kernel_rfl) F
       have R := hcl 8 5 (by kernel_rfl) F
       have O := hcl 7 6 (by kernel_rfl) D
       have N := hSi
       have l := ngF hcl 14 9 N
       have m := ngF hcl 15 9 N
       have p := ngF hcl 16 9 N
       have W := ngF hcl 17 9 N
       obtain rfl := av R
       obtain rfl := aw O
       obtain rfl := aG D
       obtain rfl := aW F
       obtain rfl := Q m
       refine hG (any_step ?_); clear hG G; intro A J hJ
       have y := Fz.le.trans y z
       have fW := al.mono z
       have fX := am.mono z
       have cg := X F
       obtain ⟨ez, eA, eB⟩ := own_elx hMx 0 (T := tyJob) (xs := g) rfl cg (w64 (f - 1)).toNat d2
       obtain rfl : ez = ((e110Dm E) : List Value) := eA
       refine lc2 hFx 46 3 (e110Dm E) eB rfl ?_; intro fY eC; clear hFx
       refine nl (qnI (hJ _ _ ?_)); clear hJ J
       exact ⟨aa, ab, ac, ag, aM, aN, an, aD, ao, .slice ao1 g.length cap2, i6 f, i6 (w64 (f - 1)), .pointer (some ⟨aa, (w64 (f - 1)).toNat * 3, none⟩), .agg (e110Dm E).toArray, a6, a7, aV, aP, aE, ai, .own tyJob 110 ao1 cap2 g, z, eC.reg, hMx.perm lpr, ap, aq, ar, au, aF, kf, kf, kf, kf, kf, ax, ay, aQ, aX, (nt l), (nt p), kf, (fun h _ => nt m h), (nt W), (fun _ => cg), Y, (nt l), (nt p)⟩
      ·
       obtain rfl := oj hi
       have U := hSi
       have q := ngF hcl 12 10 U
       have H := ngF hcl 13 12 q
       have l := ngF hcl 14 13 H
       have m := ngF hcl 15 13 H
       have p := ngF hcl 16 10 U
       have W := ngF hcl 17 10 U
       obtain rfl := Q m
       refine hG (any_step ?_); clear hG G; intro A J hJ
       have y := Fz.le.trans y z
       have fZ := al.mono z
       have f0 := am.mono z
       refine s1 hFx 47 (.slice ao1 g.length cap2) ?_; intro f1 eD; clear hFx
       refine nl (qnI (hJ _ _ ?_)); clear hJ J
       exact ⟨aa, ab, ac, ag, aM, aN, an, aD, ao, a4, bg, a5, aU, aO, .slice ao1 g.length cap2, a7, aV, aP, aE, ai, .own tyJob 110 ao1 cap2 g, z, eD.reg, hMx.perm lpr, ap, aq, ar, au, aF, av, aw, aG, aW, a8, kf, ay, (nt q), (nt H), (nt l), (nt p), kf, (fun h _ => nt m h), (nt W), X, (nt q), (nt l), (nt p)⟩
      ·
       obtain rfl := oj hi
       have M := hSi
       have q := ngF hcl 12 11 M
       have H := ngF hcl 13 12 q
       have l := ngF hcl 14 13 H
       have m := ngF hcl 15 13 H
       have p := ngF hcl 16 11 M
       have W := ngF hcl 17 11 M
       obtain rfl := Q m
       refine hG (any_step ?_); clear hG G; intro A J hJ
       have y := Fz.le.trans y z
       have f2 := al.mono z
       have f3 := am.mono z
       refine s1 hFx 48 (i6 f) ?_; intro f4 eE; clear hFx
       refine nl (qnI (hJ _ _ ?_)); clear hJ J
       exact ⟨aa, ab, ac, ag, aM, aN, an, aD, ao, a4, bg, a5, aU, aO, a6, i6 f, aV, aP, aE, ai, .own tyJob 110 ao1 cap2 g, z, eE.reg, hMx.perm lpr, ap, aq, ar, au, aF, av, aw, aG, aW, a8, ax, kf, (nt q), (nt H), (nt l), (nt p), kf, (fun h _ => nt m h), (nt W), X, (nt q), (nt l), (nt p)⟩
      ·
       obtain rfl := oj hi
       have M := hpre 11 (by kernel_rfl)
       have U := hpre 10 (by kernel_rfl)
       have q := hSi
       have H := ngF hcl 13 12 q
       have l := ngF hcl 14 13 H
       have m := ngF hcl 15 13 H
       have p := ngF hcl 16 12 q
       have W := ngF hcl 17 12 q
       obtain rfl := ax U
       obtain rfl := ay M
       obtain rfl := Q m
       refine hG (any_step ?_); clear hG G; intro A J hJ
       have y := Fz.le.trans y z
       have f5 := al.mono z
       have f6 := am.mono z
       refine ixo hFx hMx 0 (T := tyJob) (xs := g) f (by simpa only [List.length_set] using bF) (k := .i64) (e := 110) (bytes := 24) (nog rfl _) rfl (by kernel_rfl) rfl (by kernel_rfl) (by kernel_rfl) rfl (by kernel_rfl) ?_; intro ch f7 eF eG; clear hFx
       refine nl (qnI (hJ _ _ ?_)); clear hJ J
       exact ⟨aa, ch, ac, ag, aM, aN, an, aD, ao, a4, bg, a5, aU, aO, .slice ao1 g.length cap2, i6 f, .pointer (some ⟨ch, f.toNat * 3, none⟩), aP, aE, ai, .own tyJob 110 ao1 cap2 g, z, eG.reg, hMx.perm lpr, ap, aq, ar, au, aF, av, aw, aG, aW, a8, kf, kf, kf, (nt H), (nt l), (nt p), kf, (fun h _ => nt m h), (nt W), X, (fun _ => eF), (nt l), (nt p)⟩
      ·
       obtain rfl := oj hi
       have q := hpre 12 (by kernel_rfl)
       have M := hcl 12 11 (by kernel_rfl) q
       have U := hcl 12 10 (by kernel_rfl) q
       have H := hSi
       have l := ngF hcl 14 13 H
       have m := ngF hcl 15 13 H
       have p := ngF hcl 16 13 H
       have W := ngF hcl 17 13 H
       obtain rfl := ax U
       obtain rfl := ay M
       obtain rfl := aQ q
       obtain rfl := Q m
       refine hG (any_step ?_); clear hG G; intro A J hJ
       have y := Fz.le.trans y z
       have f8 := al.mono z
       have f9 := am.mono z
       have ci := Y q
       obtain ⟨eH, eI, eJ⟩ := own_elx hMx 0 (T := tyJob) (xs := g) rfl ci f.toNat bG
       obtain rfl : eH = ((e110Dm n) : List Value) := eI
       refine lc2 hFx 50 3 (e110Dm n) eJ rfl ?_; intro ga eK; clear hFx
       refine nl (qnI (hJ _ _ ?_)); clear hJ J
       exact ⟨aa, ab, ac, ag, aM, aN, an, aD, ao, a4, bg, a5, aU, aO, .slice ao1 g.length cap2, i6 f, .pointer (some ⟨ab, f.toNat * 3, none⟩), .agg (e110Dm n).toArray, aE, ai, .own tyJob 110 ao1 cap2 g, z, eK.reg, hMx.perm lpr, ap, aq, ar, au, aF, av, aw, aG, aW, a8, kf, kf, kf, kf, (nt l), (nt p), kf, (fun h _ => nt m h), (nt W), X, (fun _ => ci), (nt l), (nt p)⟩
      ·
       obtain rfl := oj hi
       have H := hpre 13 (by kernel_rfl)
       have N := hpre 9 (by kernel_rfl)
       have F := hpre 8 (by kernel_rfl)
       have D := hpre 7 (by kernel_rfl)
       have O := hpre 6 (by kernel_rfl)
       have R := hpre 5 (by kernel_rfl)
       have L := hpre 1 (by kernel_rfl)
       have I := hpre 0 (by kernel_rfl)
       have q := hcl 13 12 (by kernel_rfl) H
       have M := hcl 12 11 (by kernel_rfl) q
       have U := hcl 12 10 (by kernel_rfl) q
       have l := hSi
       have m := ngF hcl 15 14 l
       have p := ngF hcl 16 14 l
       have W := ngF hcl 17 14 l
       obtain rfl := ap I
       obtain rfl := aq L
       obtain rfl := av R
       obtain rfl := aw O
       obtain rfl := aG D
       obtain rfl := aW F
       obtain rfl := a8 N
       obtain rfl := ax U
       obtain rfl := ay M
       obtain rfl := aQ q
       obtain rfl := aX H
       obtain rfl := Q m
       refine hG (any_step ?_); clear hG G; intro A J hJ
       have y := Fz.le.trans y z
       have gb := al.mono z
       have gc := am.mono z
       have eL := X F
       have eM := Y q
       refine ixo hFx hMx 0 (T := tyJob) (xs := g) f (by simpa only [List.length_set] using d5) (k := .i64) (e := 110) (bytes := 24) (nog rfl _) rfl (by kernel_rfl) rfl (by kernel_rfl) (by kernel_rfl) rfl (by kernel_rfl) ?_; intro cj gd eN eO; clear hFx
       refine nl (qnI (hJ _ _ ?_)); clear hJ J
       exact ⟨aa, ab, cj, ag, .slice ao1 g.length cap2, i6 f, an, aD, ao, .slice ao1 g.length cap2, i6 f, i6 (w64 (f - 1)), .pointer (some ⟨aa, (w64 (f - 1)).toNat * 3, none⟩), .agg (e110Dm E).toArray, .slice ao1 g.length cap2, i6 f, .pointer (some ⟨ab, f.toNat * 3, none⟩), .agg (e110Dm n).toArray, .pointer (some ⟨cj, f.toNat * 3, none⟩), ai, .own tyJob 110 ao1 cap2 g, z, eO.reg, hMx.perm lpr, kf, kf, ar, au, aF, kf, kf, kf, kf, kf, kf, kf, kf, kf, kf, (nt p), kf, (fun h _ => nt m h), (nt W), (fun _ => eL), (fun _ => eM), (fun _ => eN), (nt p)⟩
      ·
       obtain rfl := oj hi
       have l := hpre 14 (by kernel_rfl)
       have H := hpre 13 (by kernel_rfl)
       have N := hpre 9 (by kernel_rfl)
       have F := hpre 8 (by kernel_rfl)
       have D := hpre 7 (by kernel_rfl)
       have O := hpre 6 (by kernel_rfl)
       have R := hpre 5 (by kernel_rfl)
       have L := hpre 1 (by kernel_rfl)
       have I := hpre 0 (by kernel_rfl)
       have q := hcl 13 12 (by kernel_rfl) H
       have M := hcl 12 11 (by kernel_rfl) q
       have U := hcl 12 10 (by kernel_rfl) q
       have m := hSi
       have p := ngF hcl 16 15 m
       have W := ngF hcl 17 15 m
       obtain rfl := ap I
       obtain rfl := aq L
       obtain rfl := av R
       obtain rfl := aw O
       obtain rfl := aG D
       obtain rfl := aW F
       obtain rfl := a8 N
       obtain rfl := ax U
       obtain rfl := ay M
       obtain rfl := aQ q
       obtain rfl := aX H
       obtain rfl := bm l
       obtain rfl := Q m
       refine hG (any_step ?_); clear hG G; intro A J hJ
       have y := Fz.le.trans y z
       have ge := al.mono z
       have gf := am.mono z
       have eP := X F
       have eQ := Y q
       have ck := bn l
       refine sox hFx hMx 0 ck (T := tyJob) (xs := g) f.toNat E (u := .agg (e110Dm E).toArray) (nog rfl _) rfl rfl (by kernel_rfl) rfl (by kernel_rfl) rfl (by kernel_rfl) (by first | omega | (simp only [List.length_set] at *; omega)) rfl ?_; intro gg eR; clear hMx
       refine nl (qnI (hJ _ _ ?_)); clear hJ J
       exact ⟨aa, ab, ac, ag, .slice ao1 g.length cap2, i6 f, an, aD, ao, .slice ao1 g.length cap2, i6 f, i6 (w64 (f - 1)), .pointer (some ⟨aa, (w64 (f - 1)).toNat * 3, none⟩), .agg (e110Dm E).toArray, .slice ao1 g.length cap2, i6 f, .pointer (some ⟨ab, f.toNat * 3, none⟩), .agg (e110Dm n).toArray, .pointer (some ⟨ac, f.toNat * 3, none⟩), ai, .own tyJob 110 ao1 cap2 (g.set f.toNat E), z, hFx.reg, eR.perm lpr, kf, kf, ar, au, aF, kf, kf, kf, kf, kf, kf, kf, kf, kf, kf, (nt p), nu, kf2, (nt W), (fun _ => eP), (fun _ => eQ), (fun _ => ck), (nt p)⟩
      ·
       obtain rfl := oj hi
       have m := hpre 15 (by kernel_rfl)
       have l := hpre 14 (by kernel_rfl)
       have H := hpre 13 (by kernel_rfl)
       have q := hpre 12 (by kernel_rfl)
       have M := hpre 11 (by kernel_rfl)
       have U := hpre 10 (by kernel_rfl)
       have N := hpre 9 (by kernel_rfl)
       have F := hpre 8 (by kernel_rfl)
       have D := hpre 7 (by kernel_rfl)
       have O := hpre 6 (by kernel_rfl)
       have R := hpre 5 (by kernel_rfl)
       have af := hpre 4 (by kernel_rfl)
       have j := hpre 3 (by kernel_rfl)
       have C := hpre 2 (by kernel_rfl)
       have L := hpre 1 (by kernel_rfl)
       have I := hpre 0 (by kernel_rfl)
       have p := hSi
       have W := ngF hcl 17 16 p
       obtain rfl := ap I
       obtain rfl := aq L
       obtain rfl := ar C
       obtain rfl := au j
       obtain rfl := aF af
       obtain rfl := av R
       obtain rfl := aw O
       obtain rfl := aG D
       obtain rfl := aW F
       obtain rfl := a8 N
       obtain rfl := ax U
       obtain rfl := ay M
       obtain rfl := aQ q
       obtain rfl := aX H
       obtain rfl := bm l
       obtain rfl := br m W
       refine hG (any_step ?_); clear hG G; intro A J hJ
       have y := Fz.le.trans y z
       have gh := al.mono z
       have gi := am.mono z
       have eS := X F
       have eT := Y q
       have eU := bn l
       have aH : (g.set f.toNat E).length = g.length := by simp; try omega
       have cl : Fr 53 [] [⟨0, [], .slice ao1 (g.set f.toNat E).length cap2⟩, ⟨1, [], i6 u1⟩, ⟨2, [], i6 u2⟩, ⟨3, [], .func (.func fid3) #[] caps4⟩, ⟨8, [], i6 x8⟩, ⟨9, [], i6 f⟩, ⟨37, [], .slice ao1 (g.set f.toNat E).length cap2⟩, ⟨38, [], i6 f⟩, ⟨39, [], .slice ao1 (g.set f.toNat E).length cap2⟩, ⟨40, [], i6 f⟩, ⟨41, [], i6 (w64 (f - 1))⟩, ⟨42, [], .slice ao1 (g.set f.toNat E).length cap2⟩, ⟨43, [], i6 f⟩, ⟨44, [], i6 (w64 (f - 1))⟩, ⟨45, [], .pointer (some ⟨aa, (w64 (f - 1)).toNat * 3, none⟩)⟩, ⟨46, [], .agg (e110Dm E).toArray⟩, ⟨47, [], .slice ao1 (g.set f.toNat E).length cap2⟩, ⟨48, [], i6 f⟩, ⟨49, [], .pointer (some ⟨ab, f.toNat * 3, none⟩)⟩, ⟨50, [], .agg (e110Dm n).toArray⟩, ⟨51, [], .pointer (some ⟨ac, f.toNat * 3, none⟩)⟩, ⟨52, [], ai⟩] a := by rw [aH]; exact hFx.reg
       clear hFx
       refine ixo cl hMx 0 (T := tyJob) (xs := g.set f.toNat E) (w64 (f - 1)) (by simpa only [List.length_set] using d7) (k := .i64) (e := 110) (bytes := 24) (nog rfl _) rfl (by kernel_rfl) rfl (by kernel_rfl) (by kernel_rfl) rfl (by kernel_rfl) ?_; intro cm gj eV cn; clear cl
       refine nl (qnI (hJ _ _ ?_)); clear hJ J
       rw [aH] at cn
       exact ⟨aa, ab, ac, cm, .slice ao1 g.length cap2, i6 f, .slice ao1 g.length cap2, i6 f, i6 (w64 (f - 1)), .slice ao1 g.length cap2, i6 f, i6 (w64 (f - 1)), .pointer (some ⟨aa, (w64 (f - 1)).toNat * 3, none⟩), .agg (e110Dm E).toArray, .slice ao1 g.length cap2, i6 f, .pointer (some ⟨ab, f.toNat * 3, none⟩), .agg (e110Dm n).toArray, .pointer (some ⟨ac, f.toNat * 3, none⟩), .pointer (some ⟨cm, (w64 (f - 1)).toNat * 3, none⟩), .own tyJob 110 ao1 cap2 (g.set f.toNat E), z, cn.reg, hMx.perm lpr, (fun _ => by first | rfl | rw [aH]), (fun _ => by first | rfl | rw [aH]), (fun _ => by first | rfl | rw [aH]), (fun _ => by first | rfl | rw [aH]), (fun _ => by first | rfl | rw [aH]), (fun _ => by first | rfl | rw [aH]), (fun _ => by first | rfl | rw [aH]), (fun _ => by first | rfl | rw [aH]), (fun _ => by first | rfl | rw [aH]), (fun _ => by first | rfl | rw [aH]), (fun _ => by first | rfl | rw [aH]), (fun _ => by first | rfl | rw [aH]), (fun _ => by first | rfl | rw [aH]), (fun _ => by first | rfl | rw [aH]), (fun _ => by first | rfl | rw [aH]), (fun _ => by first | rfl | rw [aH]), (tn m), kf2, (nt W), (fun _ => eS), (fun _ => eT), (fun _ => eU), (fun _ => eV)⟩
      obtain rfl := oj hi
      have p := hpre 16 (by kernel_rfl)
      have m := hpre 15 (by kernel_rfl)
      have l := hpre 14 (by kernel_rfl)
      have H := hpre 13 (by kernel_rfl)
      have q := hpre 12 (by kernel_rfl)
      have M := hpre 11 (by kernel_rfl)
      have U := hpre 10 (by kernel_rfl)
      have N := hpre 9 (by kernel_rfl)
      have F := hpre 8 (by kernel_rfl)
      have D := hpre 7 (by kernel_rfl)
      have O := hpre 6 (by kernel_rfl)
      have R := hpre 5 (by kernel_rfl)
      have af := hpre 4 (by kernel_rfl)
      have j := hpre 3 (by kernel_rfl)
      have C := hpre 2 (by kernel_rfl)
      have L := hpre 1 (by kernel_rfl)
      have I := hpre 0 (by kernel_rfl)
      have W := hSi
      obtain rfl := ap I
      obtain rfl := aq L
      obtain rfl := ar C
      obtain rfl := au j
      obtain rfl := aF af
      obtain rfl := av R
      obtain rfl := aw O
      obtain rfl := aG D
      obtain rfl := aW F
      obtain rfl := a8 N
      obtain rfl := ax U
      obtain rfl := ay M
      obtain rfl := aQ q
      obtain rfl := aX H
      obtain rfl := bm l
      obtain rfl := bJ p
      obtain rfl := br m W
      refine hG (any_step ?_); clear hG G; intro A J hJ
      have y := Fz.le.trans y z
      have gk := al.mono z
      have gl := am.mono z
      have eW := X F
      have eX := Y q
      have eY := bn l
      have co := bK p
      have aI : (g.set f.toNat E).length = g.length := by simp; try omega
      have bL : Fr 53 [] [⟨0, [], .slice ao1 (g.set f.toNat E).length cap2⟩, ⟨1, [], i6 u1⟩, ⟨2, [], i6 u2⟩, ⟨3, [], .func (.func fid3) #[] caps4⟩, ⟨8, [], i6 x8⟩, ⟨9, [], i6 f⟩, ⟨37, [], .slice ao1 (g.set f.toNat E).length cap2⟩, ⟨38, [], i6 f⟩, ⟨39, [], .slice ao1 (g.set f.toNat E).length cap2⟩, ⟨40, [], i6 f⟩, ⟨41, [], i6 (w64 (f - 1))⟩, ⟨42, [], .slice ao1 (g.set f.toNat E).length cap2⟩, ⟨43, [], i6 f⟩, ⟨44, [], i6 (w64 (f - 1))⟩, ⟨45, [], .pointer (some ⟨aa, (w64 (f - 1)).toNat * 3, none⟩)⟩, ⟨46, [], .agg (e110Dm E).toArray⟩, ⟨47, [], .slice ao1 (g.set f.toNat E).length cap2⟩, ⟨48, [], i6 f⟩, ⟨49, [], .pointer (some ⟨ab, f.toNat * 3, none⟩)⟩, ⟨50, [], .agg (e110Dm n).toArray⟩, ⟨51, [], .pointer (some ⟨ac, f.toNat * 3, none⟩)⟩, ⟨52, [], .pointer (some ⟨ag, (w64 (f - 1)).toNat * 3, none⟩)⟩] a := by rw [aI]; exact hFx.reg
      clear hFx
      refine sox bL hMx 0 co (T := tyJob) (xs := g.set f.toNat E) (w64 (f - 1)).toNat n (u := .agg (e110Dm n).toArray) (nog rfl _) rfl rfl (by kernel_rfl) rfl (by kernel_rfl) rfl (by kernel_rfl) (by first | omega | (simp only [List.length_set] at *; omega)) rfl ?_; intro gm eZ; clear hMx
      refine nl (qnI (hJ _ _ ?_)); clear hJ J
      rw [aI] at bL
      exact ⟨aa, ab, ac, ag, .slice ao1 g.length cap2, i6 f, .slice ao1 g.length cap2, i6 f, i6 (w64 (f - 1)), .slice ao1 g.length cap2, i6 f, i6 (w64 (f - 1)), .pointer (some ⟨aa, (w64 (f - 1)).toNat * 3, none⟩), .agg (e110Dm E).toArray, .slice ao1 g.length cap2, i6 f, .pointer (some ⟨ab, f.toNat * 3, none⟩), .agg (e110Dm n).toArray, .pointer (some ⟨ac, f.toNat * 3, none⟩), .pointer (some ⟨ag, (w64 (f - 1)).toNat * 3, none⟩), .own tyJob 110 ao1 cap2 ((g.set f.toNat E).set (w64 (f - 1)).toNat n), z, bL.reg, eZ.perm lpr, (fun _ => by first | rfl | rw [aI]), (fun _ => by first | rfl | rw [aI]), (fun _ => by first | rfl | rw [aI]), (fun _ => by first | rfl | rw [aI]), (fun _ => by first | rfl | rw [aI]), (fun _ => by first | rfl | rw [aI]), (fun _ => by first | rfl | rw [aI]), (fun _ => by first | rfl | rw [aI]), (fun _ => by first | rfl | rw [aI]), (fun _ => by first | rfl | rw [aI]), (fun _ => by first | rfl | rw [aI]), (fun _ => by first | rfl | rw [aI]), (fun _ => by first | rfl | rw [aI]), (fun _ => by first | rfl | rw [aI]), (fun _ => by first | rfl | rw [aI]), (fun _ => by first | rfl | rw [aI]), (tn m), (fun _ => nu), kf, (fun _ => eW), (fun _ => eX), (fun _ => eY), (fun _ => co)⟩
     case hE =>
      intro S hS cp gn hI; refine Go.Sy.hid ?_; intro G hG; obtain ⟨aa, ab, ac, ag, aM, aN, an, aD, ao, a4, bg, a5, aU, aO, a6, a7, aV, aP, aE, ai, ba, z, hFx, hMx, ap, aq, ar, au, aF, av, aw, aG, aW, a8, ax, ay, aQ, aX, bm, bJ, Q, br, ce, X, Y, bn, hI⟩ := hI; have bK := hI; clear hI; refine hG ?_; clear hG G
      obtain rfl := ap (hS 0 (by decide))
      obtain rfl := aq (hS 1 (by decide))
      obtain rfl := ar (hS 2 (by decide))
      obtain rfl := au (hS 3 (by decide))
      obtain rfl := aF (hS 4 (by decide))
      obtain rfl := av (hS 5 (by decide))
      obtain rfl := aw (hS 6 (by decide))
      obtain rfl := aG (hS 7 (by decide))
      obtain rfl := aW (hS 8 (by decide))
      obtain rfl := a8 (hS 9 (by decide))
      obtain rfl := ax (hS 10 (by decide))
      obtain rfl := ay (hS 11 (by decide))
      obtain rfl := aQ (hS 12 (by decide))
      obtain rfl := aX (hS 13 (by decide))
      obtain rfl := bm (hS 14 (by decide))
      obtain rfl := bJ (hS 16 (by decide))
      obtain rfl := ce (hS 17 (by decide))
      have y := Fz.le.trans y z
      have go := al.mono z
      have gp := am.mono z
      have gq := X (hS 8 (by decide))
      have gr := Y (hS 12 (by decide))
      have gs := bn (hS 14 (by decide))
      have gt := bK (hS 16 (by decide))
      have e0 : ((g.set f.toNat E).set (w64 (f - 1)).toNat n).length = g.length := by simp; try omega
      have cq : Fr 53 [] [⟨0, [], .slice ao1 ((g.set f.toNat E).set (w64 (f - 1)).toNat n).length cap2⟩, ⟨1, [], i6 u1⟩, ⟨2, [], i6 u2⟩, ⟨3, [], .func (.func fid3) #[] caps4⟩, ⟨8, [], i6 x8⟩, ⟨9, [], i6 f⟩, ⟨37, [], .slice ao1 ((g.set f.toNat E).set (w64 (f - 1)).toNat n).length cap2⟩, ⟨38, [], i6 f⟩, ⟨39, [], .slice ao1 ((g.set f.toNat E).set (w64 (f - 1)).toNat n).length cap2⟩, ⟨40, [], i6 f⟩, ⟨41, [], i6 (w64 (f - 1))⟩, ⟨42, [], .slice ao1 ((g.set f.toNat E).set (w64 (f - 1)).toNat n).length cap2⟩, ⟨43, [], i6 f⟩, ⟨44, [], i6 (w64 (f - 1))⟩, ⟨45, [], .pointer (some ⟨aa, (w64 (f - 1)).toNat * 3, none⟩)⟩, ⟨46, [], .agg (e110Dm E).toArray⟩, ⟨47, [], .slice ao1 ((g.set f.toNat E).set (w64 (f - 1)).toNat n).length cap2⟩, ⟨48, [], i6 f⟩, ⟨49, [], .pointer (some ⟨ab, f.toNat * 3, none⟩)⟩, ⟨50, [], .agg (e110Dm n).toArray⟩, ⟨51, [], .pointer (some ⟨ac, f.toNat * 3, none⟩)⟩, ⟨52, [], .pointer (some ⟨ag, (w64 (f - 1)).toNat * 3, none⟩)⟩] cp := by rw [e0]; exact hFx.reg
      clear hFx
      refine ibn ?_
      refine thn ?_
      have cr : Fr 53 [] [⟨0, [], .slice ao1 ((g.set f.toNat E).set (w64 (f - 1)).toNat n).length cap2⟩, ⟨1, [], i6 u1⟩, ⟨2, [], i6 u2⟩, ⟨3, [], .func (.func fid3) #[] caps4⟩, ⟨8, [], i6 x8⟩, ⟨9, [], i6 f⟩] cp := cq.reg; clear cq
      refine rgB cr hMx [] [] [(9, i6 (w64 (f - 1)))] ?_; intro gu e1; clear cr
      refine rd ?_
      exact ⟨⟨w64 (f - 1), (g.set f.toNat E).set (w64 (f - 1)).toNat n⟩, cc.1, cc.2, (e1.reg).anyβ _ (by kernel_rfl), hMx.keep (List.Sublist.cons_cons _ (List.Sublist.refl _))⟩
    have cs := bB.2 bI; clear bB
    refine wp_exit ?_
    refine thx ?_
    refine thx ?_
    refine ibx ?_
    refine ibn ?_
    refine thn ?_
    have ct : Fr 53 [] [⟨0, [], .slice ao1 g.length cap2⟩, ⟨1, [], i6 u1⟩, ⟨2, [], i6 u2⟩, ⟨3, [], .func (.func fid3) #[] caps4⟩, ⟨8, [], i6 x8⟩] aC := hFx.reg; clear hFx
    refine rgB ct hMx [] [] [(8, i6 (w64 (x8 + 1)))] ?_; intro gv e2; clear ct
    refine rd ?_
    exact ⟨⟨w64 (x8 + 1), g⟩, cs.1, cs.2, (e2.reg).anyβ _ (by kernel_rfl), hMx.keep (List.Sublist.cons_cons _ (List.Sublist.refl _))⟩
  have cu := bz.2 bu; clear bz
  have cv : Fr 53 [] [⟨0, [], .slice ao1 g.length cap2⟩, ⟨1, [], i6 u1⟩, ⟨2, [], i6 u2⟩, ⟨3, [], .func (.func fid3) #[] caps4⟩, ⟨8, [], i6 x8⟩, ⟨9, [], i6 f⟩] ah := bA.reg; clear bA
  refine sqQH mixed (by kernel_rfl) bE ?_; intro e3 cw
  refine q1 cv 18 (i6 f) ?_; intro gw cx; clear cv
  refine q1 cx 19 (i6 u1) ?_; intro gx cy; clear cx
  refine q1 cy 20 (.bool (decide (f > u1))) ?_; intro gy cz; clear cy
  have cA := cz.reval (d := 20) (c := []) (v := .bool (decide (f > u1))) (by kernel_rfl) (.bool false) (by rw [bu]); clear cz
  refine q1 cA 21 (.bool false) ?_; intro gz cB; clear cA
  refine qsk cB (b := false) rfl rfl (by kernel_rfl) (by kernel_rfl) rfl rfl (by kernel_rfl) ?_; intro gA cC; clear cB
  refine qsk cC (b := false) rfl rfl (by kernel_rfl) (by kernel_rfl) rfl rfl (by kernel_rfl) ?_; intro gB cD; clear cC
  refine qsk cD (b := false) rfl rfl (by kernel_rfl) (by kernel_rfl) rfl rfl (by kernel_rfl) ?_; intro gC cE; clear cD
  refine qsk cE (b := false) rfl rfl (by kernel_rfl) (by kernel_rfl) rfl rfl (by kernel_rfl) ?_; intro gD cF; clear cE
  refine qsk cF (b := false) rfl rfl (by kernel_rfl) (by kernel_rfl) rfl rfl (by kernel_rfl) ?_; intro gE cG; clear cF
  refine qsk cG (b := false) rfl rfl (by kernel_rfl) (by kernel_rfl) rfl rfl (by kernel_rfl) ?_; intro gF cH; clear cG
  refine qsk cH (b := false) rfl rfl (by kernel_rfl) (by kernel_rfl) rfl rfl (by kernel_rfl) ?_; intro gG cI; clear cH
  refine qsk cI (b := false) rfl rfl (by kernel_rfl) (by kernel_rfl) rfl rfl (by kernel_rfl) ?_; intro gH cJ; clear cI
  refine qsk cJ (b := false) rfl rfl (by kernel_rfl) (by kernel_rfl) rfl rfl (by kernel_rfl) ?_; intro gI cK; clear cJ
  refine qsk cK (b := false) rfl rfl (by kernel_rfl) (by kernel_rfl) rfl rfl (by kernel_rfl) ?_; intro gJ cL; clear cK
  refine qsk cL (b := false) rfl rfl (by kernel_rfl) (by kernel_rfl) rfl rfl (by kernel_rfl) ?_; intro gK cM; clear cL
  refine qsk cM (b := false) rfl rfl (by kernel_rfl) (by kernel_rfl) rfl rfl (by kernel_rfl) ?_; intro gL cN; clear cM
  refine q1 cN 34 (.bool false) ?_; intro gM bM; clear cN
  refine qnl (cw _ ?_); clear cw e3; intro gN cO; clear bE
  refine cdF bM (by kernel_rfl) ?_
  refine wp_exit ?_
  refine thx ?_
  refine thx ?_
  refine ibx ?_
  refine ibn ?_
  refine thn ?_
  refine rgB bM cO [] [] [(8, i6 (w64 (x8 + 1)))] ?_; intro gO e4; clear bM
  refine rd ?_
  exact ⟨⟨w64 (x8 + 1), g⟩, cu.1, cu.2, (e4.reg).anyβ _ (by kernel_rfl), cO.keep (List.Sublist.cons_cons _ (List.Sublist.refl _))⟩
 have e5 := bx.2 bD; clear bx
 refine wp_exit ?_
 refine thx ?_
 refine thx ?_
 refine ibx ?_
 obtain ⟨e6, e7⟩ := e5
 refine rN (fn := Try.f111) (v := .tuple #[]) bt (re0 bt (fn := Try.f111) rfl) ?_
 exact ⟨bo, Z, rfl, e7, y, e6, bs.keep (List.Sublist.cons_cons _ (List.Sublist.refl _))⟩

theorem sswap_walk (u0 : List Job) (u1 : Int) (u2 : Int) (u3 : Int) (u4 : Job → Job → Int) (ao1 : Option Addr) (cap2 : Nat) (fid3 : Nat) (caps4 : Array Value) (B : Nat) (w0 : World) (Z0 : Fz) (Rr : List Res) (Z : Fz) (w : World) (hf5 : ∀ (Z1 : Fz) (w1 : World), Z.le Z1 → Z1.on w1 → ∀ (x0 : Job) (x1 : Job), Calls Try.prog fid3 (#[.agg #[i6 x0.task, i6 x0.from_, i6 x0.asked], .agg #[i6 x1.task, i6 x1.from_, i6 x1.asked]] ++ caps4) w1 fun e w2 => e = .returned (i6 (u4 x0 x1)) ∧ Below w1.heap.size w1 w2) (hg6 : ∀ x w, Sem.run Try.prog (callFunc fid3 x) w = .ok (.enter fid3 x) w) (hM0 : Mem B [] w0 Z0 ((.own tyJob 110 ao1 cap2 u0) :: Rr) Z w) (hZ : Z.on w) {K : (List Job) → Prop} (hp : sswap_vc u0 u1 u2 u3 u4 K) : Calls Try.prog 134 #[.slice ao1 u0.length cap2, i6 u1, i6 u2, i6 u3, .func (.func fid3) #[] caps4] w fun e w' => ∃ (r : (List Job)) (Z' : Fz), e = .returned (.tuple #[]) ∧ K r ∧ Fz.le Z Z' ∧ (r.length = u0.length) ∧ Mem B [] w0 Z0 ((.own tyJob 110 ao1 cap2 r) :: Rr) Z' w' := by
 refine enter0 Try.func134 rfl rfl (by kernel_rfl) ?_; intro a0 be; have l := Fz.le.refl Z
 have bD := hp (hM0.ownSmall 0 rfl); clear hp
 refine sqB be hM0 [] [] [(10, i6 0)] ?_; intro a9 bf; clear be
 refine wp_block ?_
 have bg : Fr 38 [] [⟨0, [], .slice ao1 u0.length cap2⟩, ⟨1, [], i6 u1⟩, ⟨2, [], i6 u2⟩, ⟨3, [], i6 u3⟩, ⟨10, [], i6 0⟩] a9 := bf.reg; clear bf
 have bh : Fr 38 [] [⟨0, [], .slice ao1 u0.length cap2⟩, ⟨1, [], i6 u1⟩, ⟨2, [], i6 u2⟩, ⟨3, [], i6 u3⟩, ⟨10, [], i6 0⟩] a9 := bg.reg; clear bg
 obtain ⟨bE, bF, bG, bH⟩ := bD
 refine lp (ι := Int × (List Job)) (fun s => [⟨0, [], .slice ao1 s.2.length cap2⟩, ⟨1, [], i6 u1⟩, ⟨2, [], i6 u2⟩, ⟨3, [], i6 u3⟩, ⟨10, [], i6 s.1⟩]) (fun s => ((.own tyJob 110 ao1 cap2 s.2) :: Rr)) (fun s => Z) (fun s => bE s.1 s.2) (fun s => bF s.1 s.2) ⟨0, u0⟩ bG (by exact bh.reg) (by exact hM0) ?_
 rintro ⟨b, c⟩ bI bJ bK bi bj
 have bk : Fr 38 [] [⟨0, [], .slice ao1 c.length cap2⟩, ⟨1, [], i6 u1⟩, ⟨2, [], i6 u2⟩, ⟨3, [], i6 u3⟩, ⟨10, [], i6 b⟩] bJ := bi; clear bi bh
 have a8 : Mem B [] w0 Z0 ((.own tyJob 110 ao1 cap2 c) :: Rr) Z bK := bj; clear bj hM0
 have a7 := bH b c bI
 refine wp_seq ?_
 refine sqB bk a8 [] [] [(13, .bool (decide (b < u3)))] ?_; intro ai a6; clear bk
 refine cd a6 (t := decide (b < u3)) (by kernel_rfl) (fun ba => ?_) (fun ba => ?_)
 ·
  have bL := a7.1 ba; clear a7
  refine wp_skip ?_
  refine thn ?_
  refine wp_seq ?_
  refine wp_block ?_
  have bM : Fr 38 [] [⟨0, [], .slice ao1 c.length cap2⟩, ⟨1, [], i6 u1⟩, ⟨2, [], i6 u2⟩, ⟨3, [], i6 u3⟩, ⟨10, [], i6 b⟩] ai := a6.reg; clear a6
  obtain ⟨bN, bl⟩ := bL
  obtain ⟨f, bO, bP⟩ := gxq bl (by omega); clear bl
  obtain ⟨bQ, bm⟩ := bP
  obtain ⟨p, bR, bS⟩ := gxq bm (by omega); clear bm
  obtain ⟨bT, bU⟩ := bS
  obtain ⟨bV, bn⟩ := bU
  refine any_invE mixed [[], [], [], [1, 2], [], [], [], [5, 6], [], [], [], [9, 10], [8, 11], [12], [], [], [], [15, 16], [14, 17], [18], [0, 1, 2, 3, 8, 9, 10, 11, 12, 13, 19], [0, 1, 2, 3, 8, 9, 10, 11, 12, 13, 19, 20], [0, 1, 2, 3, 4, 5, 6, 7, 8, 9, 10, 11, 12, 13, 14, 15, 16, 17, 18, 19, 20, 21], [0, 1, 2, 3, 4, 5, 6, 7, 8, 9, 10, 11, 12, 13, 14, 15, 16, 17, 18, 19, 20, 21, 22]] 24 (fun S a w1 => ∃ (z : Nat) (C : Nat) (E : Nat) (F : Nat) (aj : Value) (au : Value) (av : Value) (ak : Value) (M : Value) (ad : Value) (ae : Value) (N : Value) (az : Value) (aH : Value) (aI : Value) (aA : Value) (aw : Value) (al : Value) (aB : Value) (aJ : Value) (aK : Value) (aC : Value) (ax : Value) (am : Value) (af : Value) (I : Value) (aX : Res), Fz.le Z Z ∧ Fr 38 [] [⟨0, [], .slice ao1 c.length cap2⟩, ⟨1, [], i6 u1⟩, ⟨2, [], i6 u2⟩, ⟨3, [], i6 u3⟩, ⟨10, [], i6 b⟩, ⟨16, [], aj⟩, ⟨17, [], au⟩, ⟨18, [], av⟩, ⟨19, [], ak⟩, ⟨20, [], M⟩, ⟨21, [], ad⟩, ⟨22, [], ae⟩, ⟨23, [], N⟩, ⟨24, [], az⟩, ⟨25, [], aH⟩, ⟨26, [], aI⟩, ⟨27, [], aA⟩, ⟨28, [], aw⟩, ⟨29, [], al⟩, ⟨30, [], aB⟩, ⟨31, [], aJ⟩, ⟨32, [], aK⟩, ⟨33, [], aC⟩, ⟨34, [], ax⟩, ⟨35, [], am⟩, ⟨36, [], af⟩, ⟨37, [], I⟩] a ∧ Mem B [] w0 Z0 (aX :: Rr) Z w1 ∧ (S 0 = true → aj = .slice ao1 c.length cap2) ∧ (S 1 = true → au = i6 u1) ∧ (S 2 = true → av = i6 b) ∧ (S 3 = true → ak = i6 (w64 (u1 + b))) ∧ (S 4 = true → M = .slice ao1 c.length cap2) ∧ (S 5 = true → ad = i6 u2) ∧ (S 6 = true → ae = i6 b) ∧ (S 7 = true → N = i6 (w64 (u2 + b))) ∧ (S 8 = true → az = .slice ao1 c.length cap2) ∧ (S 9 = true → aH = i6 u2) ∧ (S 10 = true → aI = i6 b) ∧ (S 11 = true → aA = i6 (w64 (u2 + b))) ∧ (S 12 = true → aw = .pointer (some ⟨z, (w64 (u2 + b)).toNat * 3, none⟩)) ∧ (S 13 = true → al = .agg (e110Dm f).toArray) ∧ (S 14 = true → aB = .slice ao1 c.length cap2) ∧ (S 15 = true → aJ = i6 u1) ∧ (S 16 = true → aK = i6 b) ∧ (S 17 = true → aC = i6 (w64 (u1 + b))) ∧ (S 18 = true → ax = .pointer (some ⟨C, (w64 (u1 + b)).toNat * 3, none⟩)) ∧ (S 19 = true → am = .agg (e110Dm p).toArray) ∧ (S 20 = true → af = .pointer (some ⟨E, (w64 (u1 + b)).toNat * 3, none⟩)) ∧ (S 22 = true → I = .pointer (some ⟨F, (w64 (u2 + b)).toNat * 3, none⟩)) ∧ (S 21 = false → aX = .own tyJob 110 ao1 cap2 c) ∧ (S 21 = true → S 23 = false → aX = .own tyJob 110 ao1 cap2 (c.set (w64 (u1 + b)).toNat f)) ∧ (S 23 = true → aX = .own tyJob 110 ao1 cap2 ((c.set (w64 (u1 + b)).toNat f).set (w64 (u2 + b)).toNat p)) ∧ (S 12 = true → ao1 = some ⟨z, 0, none⟩) ∧ (S 18 = true → ao1 = some ⟨C, 0, none⟩) ∧ (S 20 = true → ao1 = some ⟨E, 0, none⟩) ∧ (S 22 = true → ao1 = some ⟨F, 0, none⟩)) ?h0 ?hs ?hE
  case h0 =>
   have bW := bM.any 16
   have bX := bW.any 17
   have bY := bX.any 18
   have bZ := bY.any 19
   have b0 := bZ.any 20
   have b1 := b0.any 21
   have b2 := b1.any 22
   have b3 := b2.any 23
   have b4 := b3.any 24
   have b5 := b4.any 25
   have b6 := b5.any 26
   have b7 := b6.any 27
   have b8 := b7.any 28
   have b9 := b8.any 29
   have ca := b9.any 30
   have cb := ca.any 31
   have cc := cb.any 32
   have ce := cc.any 33
   have cf := ce.any 34
   have cg := cf.any 35
   have ch := cg.any 36
   have ci := ch.any 37
   have cj := (a8.perm lpr).drew
   exact ⟨0, 0, 0, 0, ai.tmps.getD 16 undef, ai.tmps.getD 17 undef, ai.tmps.getD 18 undef, ai.tmps.getD 19 undef, ai.tmps.getD 20 undef, ai.tmps.getD 21 undef, ai.tmps.getD 22 undef, ai.tmps.getD 23 undef, ai.tmps.getD 24 undef, ai.tmps.getD 25 undef, ai.tmps.getD 26 undef, ai.tmps.getD 27 undef, ai.tmps.getD 28 undef, ai.tmps.getD 29 undef, ai.tmps.getD 30 undef, ai.tmps.getD 31 undef, ai.tmps.getD 32 undef, ai.tmps.getD 33 undef, ai.tmps.getD 34 undef, ai.tmps.getD 35 undef, ai.tmps.getD 36 undef, ai.tmps.getD 37 undef, .own tyJob 110 ao1 cap2 c, Fz.le.refl _, ci.reg, cj, ff, ff, ff, ff, ff, ff, ff, ff, ff, ff, ff, ff, ff, ff, ff, ff, ff, ff, ff, ff, ff, ff, kf, ff, ff, ff, ff, ff, ff⟩
  case hs =>
   intro S hcl i o hil hi hSi hpre a w1 hI; refine Go.Sy.hid ?_; intro G hG; obtain ⟨z, C, E, F, aj, au, av, ak, M, ad, ae, N, az, aH, aI, aA, aw, al, aB, aJ, aK, aC, ax, am, af, I, aX, m, hFx, hMx, O, P, Q, an, R, U, V, ao, W, X, Y, ap, aD, aL, aa, ab, ac, aq, aE, aM, aZ, bb, ar, a4, bo, aF, aG, a1, hI⟩ := hI; have bc := hI; clear hI
   have hcase : i = 0 ∨ i = 1 ∨ i = 2 ∨ i = 3 ∨ i = 4 ∨ i = 5 ∨ i = 6 ∨ i = 7 ∨ i = 8 ∨ i = 9 ∨ i = 10 ∨ i = 11 ∨ i = 12 ∨ i = 13 ∨ i = 14 ∨ i = 15 ∨ i = 16 ∨ i = 17 ∨ i = 18 ∨ i = 19 ∨ i = 20 ∨ i = 21 ∨ i = 22 ∨ i = 23 := by clear hi; omega
   rcases hcase with rfl | rfl | rfl | rfl | rfl | rfl | rfl | rfl | rfl | rfl | rfl | rfl | rfl | rfl | rfl | rfl | rfl | rfl | rfl | rfl | rfl | rfl | rfl | rfl
   ·
    obtain rfl := oj hi
    have aW := hSi
    have g := ngF hcl 20 0 aW
    have j := ngF hcl 21 0 aW
    have d := ngF hcl 22 0 aW
    have n := ngF hcl 23 0 aW
    obtain rfl := ar j
    refine hG (any_step ?_); clear hG G; intro A J hJ
    have l := Fz.le.trans l m
    refine s1 hFx 16 (.slice ao1 c.length cap2) ?_; intro c6 ck; clear hFx
    refine nl (qnI (hJ _ _ ?_)); clear hJ J
    exact ⟨z, C, E, F, .slice ao1 c.length cap2, au, av, ak, M, ad, ae, N, az, aH, aI, aA, aw, al, aB, aJ, aK, aC, ax, am, af, I, .own tyJob 110 ao1 cap2 c, m, ck.reg, hMx.perm lpr, kf, P, Q, an, R, U, V, ao, W, X, Y, ap, aD, aL, aa, ab, ac, aq, aE, aM, (nt g), (nt d), kf, (fun h _ => nt j h), (nt n), aF, aG, (nt g), (nt d)⟩
   ·
    obtain rfl := oj hi
    have aT := hSi
    have aS := ngF hcl 3 1 aT
    have g := ngF hcl 20 1 aT
    have j := ngF hcl 21 1 aT
    have d := ngF hcl 22 1 aT
    have n := ngF hcl 23 1 aT
    obtain rfl := ar j
    refine hG (any_step ?_); clear hG G; intro A J hJ
    have l := Fz.le.trans l m
    refine s1 hFx 17 (i6 u1) ?_; intro c7 cl; clear hFx
    refine nl (qnI (hJ _ _ ?_)); clear hJ J
    exact ⟨z, C, E, F, aj, i6 u1, av, ak, M, ad, ae, N, az, aH, aI, aA, aw, al, aB, aJ, aK, aC, ax, am, af, I, .own tyJob 110 ao1 cap2 c, m, cl.reg, hMx.perm lpr, O, kf, Q, (nt aS), R, U, V, ao, W, X, Y, ap, aD, aL, aa, ab, ac, aq, aE, aM, (nt g), (nt d), kf, (fun h _ => nt j h), (nt n), aF, aG, (nt g), (nt d)⟩
   ·
    obtain rfl := oj hi
    have aU := hSi
    have aS := ngF hcl 3 2 aU
    have g := ngF hcl 20 2 aU
    have j := ngF hcl 21 2 aU
    have d := ngF hcl 22 2 aU
    have n := ngF hcl 23 2 aU
    obtain rfl := ar j
    refine hG (any_step ?_); clear hG G; intro A J hJ
    have l := Fz.le.trans l m
    refine s1 hFx 18 (i6 b) ?_; intro c8 cm; clear hFx
    refine nl (qnI (hJ _ _ ?_)); clear hJ J
    exact ⟨z, C, E, F, aj, au, i6 b, ak, M, ad, ae, N, az, aH, aI, aA, aw, al, aB, aJ, aK, aC, ax, am, af, I, .own tyJob 110 ao1 cap2 c, m, cm.reg, hMx.perm lpr, O, P, kf, (nt aS), R, U, V, ao, W, X, Y, ap, aD, aL, aa, ab, ac, aq, aE, aM, (nt g), (nt d), kf, (fun h _ => nt j h), (nt n), aF, aG, (nt g), (nt d)⟩
   ·
    obtain rfl := oj hi
    have aU := hpre 2 (by kernel_rfl)
    have aT := hpre 1 (by kernel_rfl)
    have aS := hSi
    have g := ngF hcl 20 3 aS
    have j := ngF hcl 21 3 aS
    have d := ngF hcl 22 3 aS
    have n := ngF hcl 23 3 aS
    obtain rfl := P aT
    obtain rfl := Q aU
    obtain rfl := ar j
    refine hG (any_step ?_); clear hG G; intro A J hJ
    have l := Fz.le.trans l m
    refine s1 hFx 19 (i6 (w64 (u1 + b))) ?_; intro c9 cn; clear hFx
    refine nl (qnI (hJ _ _ ?_)); clear hJ J
    exact ⟨z, C, E, F, aj, i6 u1, i6 b, i6 (w64 (u1 + b)), M, ad, ae, N, az, aH, aI, aA, aw, al, aB, aJ, aK, aC, ax, am, af, I, .own tyJob 110 ao1 cap2 c, m, cn.reg, hMx.perm lpr, O, kf, kf, kf, R, U, V, ao, W, X, Y, ap, aD, aL, aa, ab, ac, aq, aE, aM, (nt g), (nt d), kf, (fun h _ => nt j h), (nt n), aF, aG, (nt g), (nt d)⟩
   ·
    obtain rfl := oj hi
    have a5 := hSi
    have d := ngF hcl 22 4 a5
    have n := ngF hcl 23 4 a5
    refine hG (any_step ?_); clear hG G; intro A J hJ
    have l := Fz.le.trans l m
    refine s1 hFx 20 (.slice ao1 c.length cap2) ?_; intro da co; clear hFx
    refine nl (qnI (hJ _ _ ?_)); clear hJ J
    exact ⟨z, C, E, F, aj, au, av, ak, .slice ao1 c.length cap2, ad, ae, N, az, aH, aI, aA, aw, al, aB, aJ, aK, aC, ax, am, af, I, aX, m, co.reg, hMx.perm lpr, O, P, Q, an, kf, U, V, ao, W, X, Y, ap, aD, aL, aa, ab, ac, aq, aE, aM, aZ, (nt d), ar, a4, (nt n), aF, aG, a1, (nt d)⟩
   ·
    obtain rfl := oj hi
    have a2 := hSi
    have aY := ngF hcl 7 5 a2
    have d := ngF hcl 22 5 a2
    have n := ngF hcl 23 5 a2
    refine hG (any_step ?_); clear hG G; intro A J hJ
    have l := Fz.le.trans l m
    refine s1 hFx 21 (i6 u2) ?_; intro db cp; clear hFx
    refine nl (qnI (hJ _ _ ?_)); clear hJ J
    exact ⟨z, C, E, F, aj, au, av, ak, M, i6 u2, ae, N, az, aH, aI, aA, aw, al, aB, aJ, aK, aC, ax, am, af, I, aX, m, cp.reg, hMx.perm lpr, O, P, Q, an, R, kf, V, (nt aY), W, X, Y, ap, aD, aL, aa, ab, ac, aq, aE, aM, aZ, (nt d), ar, a4, (nt n), aF, aG, a1, (nt d)⟩
   ·
    obtain rfl := oj hi
    have a3 := hSi
    have aY := ngF hcl 7 6 a3
    have d := ngF hcl 22 6 a3
    have n := ngF hcl 23 6 a3
    refine hG (any_step ?_); clear hG G; intro A J hJ
    have l := Fz.le.trans l m
    refine s1 hFx 22 (i6 b) ?_; intro dc cq; clear hFx
    refine nl (qnI (hJ _ _ ?_)); clear hJ J
    exact ⟨z, C, E, F, aj, au, av, ak, M, ad, i6 b, N, az, aH, aI, aA, aw, al, aB, aJ, aK, aC, ax, am, af, I, aX, m, cq.reg, hMx.perm lpr, O, P, Q, an, R, U, kf, (nt aY), W, X, Y, ap, aD, aL, aa, ab, ac, aq, aE, aM, aZ, (nt d), ar, a4, (nt n), aF, aG, a1, (nt d)⟩
   ·
    obtain rfl := oj hi
    have a3 := hpre 6 (by kernel_rfl)
    have a2 := hpre 5 (by kernel_rfl)
    have aY := hSi
    have d := ngF hcl 22 7 aY
    have n := ngF hcl 23 7 aY
    obtain rfl := U a2
    obtain rfl := V a3
    refine hG (any_step ?_); clear hG G; intro A J hJ
    have l := Fz.le.trans l m
    refine s1 hFx 23 (i6 (w64 (u2 + b))) ?_; intro dd cr; clear hFx
    refine nl (qnI (hJ _ _ ?_)); clear hJ J
    exact ⟨z, C, E, F, aj, au, av, ak, M, i6 u2, i6 b, i6 (w64 (u2 + b)), az, aH, aI, aA, aw, al, aB, aJ, aK, aC, ax, am, af, I, aX, m, cr.reg, hMx.perm lpr, O, P, Q, an, R, kf, kf, kf, W, X, Y, ap, aD, aL, aa, ab, ac, aq, aE, aM, aZ, (nt d), ar, a4, (nt n), aF, aG, a1, (nt d)⟩
   ·
    obtain rfl := oj hi
    have aP := hSi
    have y := ngF hcl 12 8 aP
    have ay := ngF hcl 13 12 y
    have g := ngF hcl 20 8 aP
    have j := ngF hcl 21 8 aP
    have d := ngF hcl 22 8 aP
    have n := ngF hcl 23 8 aP
    obtain rfl := ar j
    refine hG (any_step ?_); clear hG G; intro A J hJ
    have l := Fz.le.trans l m
    refine s1 hFx 24 (.slice ao1 c.length cap2) ?_; intro de cs; clear hFx
    refine nl (qnI (hJ _ _ ?_)); clear hJ J
    exact ⟨z, C, E, F, aj, au, av, ak, M, ad, ae, N, .slice ao1 c.length cap2, aH, aI, aA, aw, al, aB, aJ, aK, aC, ax, am, af, I, .own tyJob 110 ao1 cap2 c, m, cs.reg, hMx.perm lpr, O, P, Q, an, R, U, V, ao, kf, X, Y, ap, (nt y), (nt ay), aa, ab, ac, aq, aE, aM, (nt g), (nt d), kf, (fun h _ => nt j h), (nt n), (nt y), aG, (nt g), (nt d)⟩
   ·
    obtain rfl := oj hi
    have aN := hSi
    have L := ngF hcl 11 9 aN
    have y := ngF hcl 12 11 L
    have ay := ngF hcl 13 12 y
    have g := ngF hcl 20 9 aN
    have j := ngF hcl 21 9 aN
    have d := ngF hcl 22 9 aN
    have n := ngF hcl 23 9 aN
    obtain rfl := ar j
    refine hG (any_step ?_); clear hG G; intro A J hJ
    have l := Fz.le.trans l m
    refine s1 hFx 25 (i6 u2) ?_; intro df ct; clear hFx
    refine nl (qnI (hJ _ _ ?_)); clear hJ J
    exact ⟨z, C, E, F, aj, au, av, ak, M, ad, ae, N, az, i6 u2, aI, aA, aw, al, aB, aJ, aK, aC, ax, am, af, I, .own tyJob 110 ao1 cap2 c, m, ct.reg, hMx.perm lpr, O, P, Q, an, R, U, V, ao, W, kf, Y, (nt L), (nt y), (nt ay), aa, ab, ac, aq, aE, aM, (nt g), (nt d), kf, (fun h _ => nt j h), (nt n), (nt y), aG, (nt g), (nt d)⟩
   ·
    obtain rfl := oj hi
    have aO := hSi
    have L := ngF hcl 11 10 aO
    have y := ngF hcl 12 11 L
    have ay := ngF hcl 13 12 y
    have g := ngF hcl 20 10 aO
    have j := ngF hcl 21 10 aO
    have d := ngF hcl 22 10 aO
    have n := ngF hcl 23 10 aO
    obtain rfl := ar j
    refine hG (any_step ?_); clear hG G; intro A J hJ
    have l := Fz.le.trans l m
    refine s1 hFx 26 (i6 b) ?_; intro dg cu; clear hFx
    refine nl (qnI (hJ _ _ ?_)); clear hJ J
    exact ⟨z, C, E, F, aj, au, av, ak, M, ad, ae, N, az, aH, i6 b, aA, aw, al, aB, aJ, aK, aC, ax, am, af, I, .own tyJob 110 ao1 cap2 c, m, cu.reg, hMx.perm lpr, O, P, Q, an, R, U, V, ao, W, X, kf, (nt L), (nt y), (nt ay), aa, ab, ac, aq, aE, aM, (nt g), (nt d), kf, (fun h _ => nt j h), (nt n), (nt y), aG, (nt g), (nt d)⟩
   ·
    obtain rfl := oj hi
    have aO := hpre 10 (by kernel_rfl)
    have aN := hpre 9 (by kernel_rfl)
    have L := hSi
    have y := ngF hcl 12 11 L
    have ay := ngF hcl 13 12 y
    have g := ngF hcl 20 11 L
    have j := ngF hcl 21 11 L
    have d := ngF hcl 22 11 L
    have n := ngF hcl 23 11 L
    obtain rfl := X aN
    obtain rfl := Y aO
    obtain rfl := ar j
    refine hG (any_step ?_); clear hG G; intro A J hJ
    have l := Fz.le.trans l m
    refine s1 hFx 27 (i6 (w64 (u2 + b))) ?_; intro dh cv; clear hFx
    refine nl (qnI (hJ _ _ ?_)); clear hJ J
    exact ⟨z, C, E, F, aj, au, av, ak, M, ad, ae, N, az, i6 u2, i6 b, i6 (w64 (u2 + b)), aw, al, aB, aJ, aK, aC, ax, am, af, I, .own tyJob 110 ao1 cap2 c, m, cv.reg, hMx.perm lpr, O, P, Q, an, R, U, V, ao, W, kf, kf, kf, (nt y), (nt ay), aa, ab, ac, aq, aE, aM, (nt g), (nt d), kf, (fun h _ => nt j h), (nt n), (nt y), aG, (nt g), (nt d)⟩
   ·
    obtain rfl := oj hi
    have L := hpre 11 (by kernel_rfl)
    have aP := hpre 8 (by kernel_rfl)
    have aO := hcl 11 10 (by kernel_rfl) L
    have aN := hcl 11 9 (by kernel_rfl) L
    have y := hSi
    have ay := ngF hcl 13 12 y
    have g := ngF hcl 20 12 y
    have j := ngF hcl 21 12 y
    have d := ngF hcl 22 12 y
    have n := ngF hcl 23 12 y
    obtain rfl := W aP
    obtain rfl := X aN
    obtain rfl := Y aO
    obtain rfl := ap L
    obtain rfl := ar j
    refine hG (any_step ?_); clear hG G; intro A J hJ
    have l := Fz.le.trans l m
    refine ixo hFx hMx 0 (T := tyJob) (xs := c) (w64 (u2 + b)) (by simpa only [List.length_set] using bN) (k := .i64) (e := 110) (bytes := 24) (nog rfl _) rfl (by kernel_rfl) rfl (by kernel_rfl) (by kernel_rfl) rfl (by kernel_rfl) ?_; intro bp di cw cx; clear hFx
    refine nl (qnI (hJ _ _ ?_)); clear hJ J
    exact ⟨bp, C, E, F, aj, au, av, ak, M, ad, ae, N, .slice ao1 c.length cap2, i6 u2, i6 b, i6 (w64 (u2 + b)), .pointer (some ⟨bp, (w64 (u2 + b)).toNat * 3, none⟩), al, aB, aJ, aK, aC, ax, am, af, I, .own tyJob 110 ao1 cap2 c, m, cx.reg, hMx.perm lpr, O, P, Q, an, R, U, V, ao, kf, kf, kf, kf, kf, (nt ay), aa, ab, ac, aq, aE, aM, (nt g), (nt d), kf, (fun h _ => nt j h), (nt n), (fun _ => cw), aG, (nt g), (nt d)⟩
   ·
    obtain rfl := oj hi
    have y := hpre 12 (by kernel_rfl)
    have L := hcl 12 11 (by kernel_rfl) y
    have aP := hcl 12 8 (by kernel_rfl) y
    have aO := hcl 11 10 (by kernel_rfl) L
    have aN := hcl 11 9 (by kernel_rfl) L
    have ay := hSi
    have g := ngF hcl 20 13 ay
    have j := ngF hcl 21 13 ay
    have d := ngF hcl 22 13 ay
    have n := ngF hcl 23 13 ay
    obtain rfl := W aP
    obtain rfl := X aN
    obtain rfl := Y aO
    obtain rfl := ap L
    obtain rfl := aD y
    obtain rfl := ar j
    refine hG (any_step ?_); clear hG G; intro A J hJ
    have l := Fz.le.trans l m
    have bq := aF y
    obtain ⟨cy, cz, cA⟩ := own_elx hMx 0 (T := tyJob) (xs := c) rfl bq (w64 (u2 + b)).toNat bO
    obtain rfl : cy = ((e110Dm f) : List Value) := cz
    refine lc2 hFx 29 3 (e110Dm f) cA rfl ?_; intro dj cB; clear hFx
    refine nl (qnI (hJ _ _ ?_)); clear hJ J
    exact ⟨z, C, E, F, aj, au, av, ak, M, ad, ae, N, .slice ao1 c.length cap2, i6 u2, i6 b, i6 (w64 (u2 + b)), .pointer (some ⟨z, (w64 (u2 + b)).toNat * 3, none⟩), .agg (e110Dm f).toArray, aB, aJ, aK, aC, ax, am, af, I, .own tyJob 110 ao1 cap2 c, m, cB.reg, hMx.perm lpr, O, P, Q, an, R, U, V, ao, kf, kf, kf, kf, kf, kf, aa, ab, ac, aq, aE, aM, (nt g), (nt d), kf, (fun h _ => nt j h), (nt n), (fun _ => bq), aG, (nt g), (nt d)⟩
   ·
    obtain rfl := oj hi
    have aV := hSi
    have q := ngF hcl 18 14 aV
    have D := ngF hcl 19 18 q
    have g := ngF hcl 20 19 D
    have j := ngF hcl 21 19 D
    have d := ngF hcl 22 14 aV
    have n := ngF hcl 23 14 aV
    obtain rfl := ar j
    refine hG (any_step ?_); clear hG G; intro A J hJ
    have l := Fz.le.trans l m
    refine s1 hFx 30 (.slice ao1 c.length cap2) ?_; intro dk cC; clear hFx
    refine nl (qnI (hJ _ _ ?_)); clear hJ J
    exact ⟨z, C, E, F, aj, au, av, ak, M, ad, ae, N, az, aH, aI, aA, aw, al, .slice ao1 c.length cap2, aJ, aK, aC, ax, am, af, I, .own tyJob 110 ao1 cap2 c, m, cC.reg, hMx.perm lpr, O, P, Q, an, R, U, V, ao, W, X, Y, ap, aD, aL, kf, ab, ac, aq, (nt q), (nt D), (nt g), (nt d), kf, (fun h _ => nt j h), (nt n), aF, (nt q), (nt g), (nt d)⟩
   ·
    obtain rfl := oj hi
    have aQ := hSi
    have H := ngF hcl 17 15 aQ
    have q := ngF hcl 18 17 H
    have D := ngF hcl 19 18 q
    have g := ngF hcl 20 19 D
    have j := ngF hcl 21 19 D
    have d := ngF hcl 22 15 aQ
    have n := ngF hcl 23 15 aQ
    obtain rfl := ar j
    refine hG (any_step ?_); clear hG G; intro A J hJ
    have l := Fz.le.trans l m
    refine s1 hFx 31 (i6 u1) ?_; intro dl cD; clear hFx
    refine nl (qnI (hJ _ _ ?_)); clear hJ J
    exact ⟨z, C, E, F, aj, au, av, ak, M, ad, ae, N, az, aH, aI, aA, aw, al, aB, i6 u1, aK, aC, ax, am, af, I, .own tyJob 110 ao1 cap2 c, m, cD.reg, hMx.perm lpr, O, P, Q, an, R, U, V, ao, W, X, Y, ap, aD, aL, aa, kf, ac, (nt H), (nt q), (nt D), (nt g), (nt d), kf, (fun h _ => nt j h), (nt n), aF, (nt q), (nt g), (nt d)⟩
   ·
    obtain rfl := oj hi
    have aR := hSi
    have H := ngF hcl 17 16 aR
    have q := ngF hcl 18 17 H
    have D := ngF hcl 19 18 q
    have g := ngF hcl 20 19 D
    have j := ngF hcl 21 19 D
    have d := ngF hcl 22 16 aR
    have n := ngF hcl 23 16 aR
    obtain rfl := ar j
    refine hG (any_step ?_); clear hG G; intro A J hJ
    have l := Fz.le.trans l m
    refine s1 hFx 32 (i6 b) ?_; intro dm cE; clear hFx
    refine nl (qnI (hJ _ _ ?_)); clear hJ J
    exact ⟨z, C, E, F, aj, au, av, ak, M, ad, ae, N, az, aH, aI, aA, aw, al, aB, aJ, i6 b, aC, ax, am, af, I, .own tyJob 110 ao1 cap2 c, m, cE.reg, hMx.perm lpr, O, P, Q, an, R, U, V, ao, W, X, Y, ap, aD, aL, aa, ab, kf, (nt H), (nt q), (nt D), (nt g), (nt d), kf, (fun h _ => nt j h), (nt n), aF, (nt q), (nt g), (nt d)⟩
   ·
    obtain rfl := oj hi
    have aR := hpre 16 (by kernel_rfl)
    have aQ := hpre 15 (by kernel_rfl)
    have H := hSi
    have q := ngF hcl 18 17 H
    have D := ngF hcl 19 18 q
    have g := ngF hcl 20 19 D
    have j := ngF hcl 21 19 D
    have d := ngF hcl 22 17 H
    have n := ngF hcl 23 17 H
    obtain rfl := ab aQ
    obtain rfl := ac aR
    obtain rfl := ar j
    refine hG (any_step ?_); clear hG G; intro A J hJ
    have l := Fz.le.trans l m
    refine s1 hFx 33 (i6 (w64 (u1 + b))) ?_; intro dn cF; clear hFx
    refine nl (qnI (hJ _ _ ?_)); clear hJ J
    exact ⟨z, C, E, F, aj, au, av, ak, M, ad, ae, N, az, aH, aI, aA, aw, al, aB, i6 u1, i6 b, i6 (w64 (u1 + b)), ax, am, af, I, .own tyJob 110 ao1 cap2 c, m, cF.reg, hMx.perm lpr, O, P, Q, an, R, U, V, ao, W, X, Y, ap, aD, aL, aa, kf, kf, kf, (nt q), (nt D), (nt g), (nt d), kf, (fun h _ => nt j h), (nt n), aF, (nt q), (nt g), (nt d)⟩
   ·
    obtain rfl := oj hi
    have H := hpre 17 (by kernel_rfl)
    have aV := hpre 14 (by kernel_rfl)
    have aR := hcl 17 16 (by kernel_rfl) H
    have aQ := hcl 17 15 (by kernel_rfl) H
    have q := hSi
    have D := ngF hcl 19 18 q
    have g := ngF hcl 20 19 D
    have j := ngF hcl 21 19 D
    have d := ngF hcl 22 18 q
    have n := ngF hcl 23 18 q
    obtain rfl := aa aV
    obtain rfl := ab aQ
    obtain rfl := ac aR
    obtain rfl := aq H
    obtain rfl := ar j
    refine hG (any_step ?_); clear hG G; intro A J hJ
    have l := Fz.le.trans l m
    refine ixo hFx hMx 0 (T := tyJob) (xs := c) (w64 (u1 + b)) (by simpa only [List.length_set] using bQ) (k := .i64) (e := 110) (bytes := 24) (nog rfl _) rfl (by kernel_rfl) rfl (by kernel_rfl) (by kernel_rfl) rfl (by kernel_rfl) ?_; intro br dp cG cH; clear hFx
    refine nl (qnI (hJ _ _ ?_)); clear hJ J
    exact ⟨z, br, E, F, aj, au, av, ak, M, ad, ae, N, az, aH, aI, aA, aw, al, .slice ao1 c.length cap2, i6 u1, i6 b, i6 (w64 (u1 + b)), .pointer (some ⟨br, (w64 (u1 + b)).toNat * 3, none⟩), am, af, I, .own tyJob 110 ao1 cap2 c, m, cH.reg, hMx.perm lpr, O, P, Q, an, R, U, V, ao, W, X, Y, ap, aD, aL, kf, kf, kf, kf, kf, (nt D), (nt g), (nt d), kf, (fun h _ => nt j h), (nt n), aF, (fun _ => cG), (nt g), (nt d)⟩
   ·
    obtain rfl := oj hi
    have q := hpre 18 (by kernel_rfl)
    have H := hcl 18 17 (by kernel_rfl) q
    have aV := hcl 18 14 (by kernel_rfl) q
    have aR := hcl 17 16 (by kernel_rfl) H
    have aQ := hcl 17 15 (by kernel_rfl) H
    have D := hSi
    have g := ngF hcl 20 19 D
    have j := ngF hcl 21 19 D
    have d := ngF hcl 22 19 D
    have n := ngF hcl 23 19 D
    obtain rfl := aa aV
    obtain rfl := ab aQ
    obtain rfl := ac aR
    obtain rfl := aq H
    obtain rfl := aE q
    obtain rfl := ar j
    refine hG (any_step ?_); clear hG G; intro A J hJ
    have l := Fz.le.trans l m
    have bs := aG q
    obtain ⟨cI, cJ, cK⟩ := own_elx hMx 0 (T := tyJob) (xs := c) rfl bs (w64 (u1 + b)).toNat bR
    obtain rfl : cI = ((e110Dm p) : List Value) := cJ
    refine lc2 hFx 35 3 (e110Dm p) cK rfl ?_; intro dq cL; clear hFx
    refine nl (qnI (hJ _ _ ?_)); clear hJ J
    exact ⟨z, C, E, F, aj, au, av, ak, M, ad, ae, N, az, aH, aI, aA, aw, al, .slice ao1 c.length cap2, i6 u1, i6 b, i6 (w64 (u1 + b)), .pointer (some ⟨C, (w64 (u1 + b)).toNat * 3, none⟩), .agg (e110Dm p).toArray, af, I, .own tyJob 110 ao1 cap2 c, m, cL.reg, hMx.perm lpr, O, P, Q, an, R, U, V, ao, W, X, Y, ap, aD, aL, kf, kf, kf, kf, kf, kf, (nt g), (nt d), kf, (fun h _ => nt j h), (nt n), aF, (fun _ => bs), (nt g), (nt d)⟩
   ·
    obtain rfl := oj hi
    have D := hpre 19 (by kernel_rfl)
    have ay := hpre 13 (by kernel_rfl)
    have y := hpre 12 (by kernel_rfl)
    have L := hpre 11 (by kernel_rfl)
    have aO := hpre 10 (by kernel_rfl)
    have aN := hpre 9 (by kernel_rfl)
    have aP := hpre 8 (by kernel_rfl)
    have aS := hpre 3 (by kernel_rfl)
    have aU := hpre 2 (by kernel_rfl)
    have aT := hpre 1 (by kernel_rfl)
    have aW := hpre 0 (by kernel_rfl)
    have q := hcl 19 18 (by kernel_rfl) D
    have H := hcl 18 17 (by kernel_rfl) q
    have aV := hcl 18 14 (by kernel_rfl) q
    have aR := hcl 17 16 (by kernel_rfl) H
    have aQ := hcl 17 15 (by kernel_rfl) H
    have g := hSi
    have j := ngF hcl 21 20 g
    have d := ngF hcl 22 20 g
    have n := ngF hcl 23 20 g
    obtain rfl := O aW
    obtain rfl := P aT
    obtain rfl := Q aU
    obtain rfl := an aS
    obtain rfl := W aP
    obtain rfl := X aN
    obtain rfl := Y aO
    obtain rfl := ap L
    obtain rfl := aD y
    obtain rfl := aL ay
    obtain rfl := aa aV
    obtain rfl := ab aQ
    obtain rfl := ac aR
    obtain rfl := aq H
    obtain rfl := aE q
    obtain rfl := aM D
    obtain rfl := ar j
    refine hG (any_step ?_); clear hG G; intro A J hJ
    have l := Fz.le.trans l m
    have cM := aF y
    have cN := aG q
    refine ixo hFx hMx 0 (T := tyJob) (xs := c) (w64 (u1 + b)) (by simpa only [List.length_set] using bT) (k := .i64) (e := 110) (bytes := 24) (nog rfl _) rfl (by kernel_rfl) rfl (by kernel_rfl) (by kernel_rfl) rfl (by kernel_rfl) ?_; intro bt dr cO cP; clear hFx
    refine nl (qnI (hJ _ _ ?_)); clear hJ J
    exact ⟨z, C, bt, F, .slice ao1 c.length cap2, i6 u1, i6 b, i6 (w64 (u1 + b)), M, ad, ae, N, .slice ao1 c.length cap2, i6 u2, i6 b, i6 (w64 (u2 + b)), .pointer (some ⟨z, (w64 (u2 + b)).toNat * 3, none⟩), .agg (e110Dm f).toArray, .slice ao1 c.length cap2, i6 u1, i6 b, i6 (w64 (u1 + b)), .pointer (some ⟨C, (w64 (u1 + b)).toNat * 3, none⟩), .agg (e110Dm p).toArray, .pointer (some ⟨bt, (w64 (u1 + b)).toNat * 3, none⟩), I, .own tyJob 110 ao1 cap2 c, m, cP.reg, hMx.perm lpr, kf, kf, kf, kf, R, U, V, ao, kf, kf, kf, kf, kf, kf, kf, kf, kf, kf, kf, kf, kf, (nt d), kf, (fun h _ => nt j h), (nt n), (fun _ => cM), (fun _ => cN), (fun _ => cO), (nt d)⟩
   ·
    obtain rfl := oj hi
    have g := hpre 20 (by kernel_rfl)
    have D := hpre 19 (by kernel_rfl)
    have ay := hpre 13 (by kernel_rfl)
    have y := hpre 12 (by kernel_rfl)
    have L := hpre 11 (by kernel_rfl)
    have aO := hpre 10 (by kernel_rfl)
    have aN := hpre 9 (by kernel_rfl)
    have aP := hpre 8 (by kernel_rfl)
    have aS := hpre 3 (by kernel_rfl)
    have aU := hpre 2 (by kernel_rfl)
    have aT := hpre 1 (by kernel_rfl)
    have aW := hpre 0 (by kernel_rfl)
    have q := hcl 19 18 (by kernel_rfl) D
    have H := hcl 18 17 (by kernel_rfl) q
    have aV := hcl 18 14 (by kernel_rfl) q
    have aR := hcl 17 16 (by kernel_rfl) H
    have aQ := hcl 17 15 (by kernel_rfl) H
    have j := hSi
    have d := ngF hcl 22 21 j
    have n := ngF hcl 23 21 j
    obtain rfl := O aW
    obtain rfl := P aT
    obtain rfl := Q aU
    obtain rfl := an aS
    obtain rfl := W aP
    obtain rfl := X aN
    obtain rfl := Y aO
    obtain rfl := ap L
    obtain rfl := aD y
    obtain rfl := aL ay
    obtain rfl := aa aV
    obtain rfl := ab aQ
    obtain rfl := ac aR
    obtain rfl := aq H
    obtain rfl := aE q
    obtain rfl := aM D
    obtain rfl := aZ g
    obtain rfl := ar j
    refine hG (any_step ?_); clear hG G; intro A J hJ
    have l := Fz.le.trans l m
    have cQ := aF y
    have cR := aG q
    have bu := a1 g
    refine sox hFx hMx 0 bu (T := tyJob) (xs := c) (w64 (u1 + b)).toNat f (u := .agg (e110Dm f).toArray) (nog rfl _) rfl rfl (by kernel_rfl) rfl (by kernel_rfl) rfl (by kernel_rfl) (by first | omega | (simp only [List.length_set] at *; omega)) rfl ?_; intro ds cS; clear hMx
    refine nl (qnI (hJ _ _ ?_)); clear hJ J
    exact ⟨z, C, E, F, .slice ao1 c.length cap2, i6 u1, i6 b, i6 (w64 (u1 + b)), M, ad, ae, N, .slice ao1 c.length cap2, i6 u2, i6 b, i6 (w64 (u2 + b)), .pointer (some ⟨z, (w64 (u2 + b)).toNat * 3, none⟩), .agg (e110Dm f).toArray, .slice ao1 c.length cap2, i6 u1, i6 b, i6 (w64 (u1 + b)), .pointer (some ⟨C, (w64 (u1 + b)).toNat * 3, none⟩), .agg (e110Dm p).toArray, .pointer (some ⟨E, (w64 (u1 + b)).toNat * 3, none⟩), I, .own tyJob 110 ao1 cap2 (c.set (w64 (u1 + b)).toNat f), m, hFx.reg, cS.perm lpr, kf, kf, kf, kf, R, U, V, ao, kf, kf, kf, kf, kf, kf, kf, kf, kf, kf, kf, kf, kf, (nt d), nu, kf2, (nt n), (fun _ => cQ), (fun _ => cR), (fun _ => bu), (nt d)⟩
   ·
    obtain rfl := oj hi
    have j := hpre 21 (by kernel_rfl)
    have g := hpre 20 (by kernel_rfl)
    have D := hpre 19 (by kernel_rfl)
    have q := hpre 18 (by kernel_rfl)
    have H := hpre 17 (by kernel_rfl)
    have aR := hpre 16 (by kernel_rfl)
    have aQ := hpre 15 (by kernel_rfl)
    have aV := hpre 14 (by kernel_rfl)
    have ay := hpre 13 (by kernel_rfl)
    have y := hpre 12 (by kernel_rfl)
    have L := hpre 11 (by kernel_rfl)
    have aO := hpre 10 (by kernel_rfl)
    have aN := hpre 9 (by kernel_rfl)
    have aP := hpre 8 (by kernel_rfl)
    have aY := hpre 7 (by kernel_rfl)
    have a3 := hpre 6 (by kernel_rfl)
    have a2 := hpre 5 (by kernel_rfl)
    have a5 := hpre 4 (by kernel_rfl)
    have aS := hpre 3 (by kernel_rfl)
    have aU := hpre 2 (by kernel_rfl)
    have aT := hpre 1 (by kernel_rfl)
    have aW := hpre 0 (by kernel_rfl)
    have d := hSi
    have n := ngF hcl 23 22 d
    obtain rfl := O aW
    obtain rfl := P aT
    obtain rfl := Q aU
    obtain rfl := an aS
    obtain rfl := R a5
    obtain rfl := U a2
    obtain rfl := V a3
    obtain rfl := ao aY
    obtain rfl := W aP
    obtain rfl := X aN
    obtain rfl := Y aO
    obtain rfl := ap L
    obtain rfl := aD y
    obtain rfl := aL ay
    obtain rfl := aa aV
    obtain rfl := ab aQ
    obtain rfl := ac aR
    obtain rfl := aq H
    obtain rfl := aE q
    obtain rfl := aM D
    obtain rfl := aZ g
    obtain rfl := a4 j n
    refine hG (any_step ?_); clear hG G; intro A J hJ
    have l := Fz.le.trans l m
    have cT := aF y
    have cU := aG q
    have cV := a1 g
    have ag : (c.set (w64 (u1 + b)).toNat f).length = c.length := by simp; try omega
    have bv : Fr 38 [] [⟨0, [], .slice ao1 (c.set (w64 (u1 + b)).toNat f).length cap2⟩, ⟨1, [], i6 u1⟩, ⟨2, [], i6 u2⟩, ⟨3, [], i6 u3⟩, ⟨10, [], i6 b⟩, ⟨16, [], .slice ao1 (c.set (w64 (u1 + b)).toNat f).length cap2⟩, ⟨17, [], i6 u1⟩, ⟨18, [], i6 b⟩, ⟨19, [], i6 (w64 (u1 + b))⟩, ⟨20, [], .slice ao1 (c.set (w64 (u1 + b)).toNat f).length cap2⟩, ⟨21, [], i6 u2⟩, ⟨22, [], i6 b⟩, ⟨23, [], i6 (w64 (u2 + b))⟩, ⟨24, [], .slice ao1 (c.set (w64 (u1 + b)).toNat f).length cap2⟩, ⟨25, [], i6 u2⟩, ⟨26, [], i6 b⟩, ⟨27, [], i6 (w64 (u2 + b))⟩, ⟨28, [], .pointer (some ⟨z, (w64 (u2 + b)).toNat * 3, none⟩)⟩, ⟨29, [], .agg (e110Dm f).toArray⟩, ⟨30, [], .slice ao1 (c.set (w64 (u1 + b)).toNat f).length cap2⟩, ⟨31, [], i6 u1⟩, ⟨32, [], i6 b⟩, ⟨33, [], i6 (w64 (u1 + b))⟩, ⟨34, [], .pointer (some ⟨C, (w64 (u1 + b)).toNat * 3, none⟩)⟩, ⟨35, [], .agg (e110Dm p).toArray⟩, ⟨36, [], .pointer (some ⟨E, (w64 (u1 + b)).toNat * 3, none⟩)⟩, ⟨37, [], I⟩] a := by rw [ag]; exact hFx.reg
    clear hFx
    refine ixo bv hMx 0 (T := tyJob) (xs := c.set (w64 (u1 + b)).toNat f) (w64 (u2 + b)) (by simpa only [List.length_set] using bV) (k := .i64) (e := 110) (bytes := 24) (nog rfl _) rfl (by kernel_rfl) rfl (by kernel_rfl) (by kernel_rfl) rfl (by kernel_rfl) ?_; intro bw dt cW bx; clear bv
    refine nl (qnI (hJ _ _ ?_)); clear hJ J
    rw [ag] at bx
    exact ⟨z, C, E, bw, .slice ao1 c.length cap2, i6 u1, i6 b, i6 (w64 (u1 + b)), .slice ao1 c.length cap2, i6 u2, i6 b, i6 (w64 (u2 + b)), .slice ao1 c.length cap2, i6 u2, i6 b, i6 (w64 (u2 + b)), .pointer (some ⟨z, (w64 (u2 + b)).toNat * 3, none⟩), .agg (e110Dm f).toArray, .slice ao1 c.length cap2, i6 u1, i6 b, i6 (w64 (u1 + b)), .pointer (some ⟨C, (w64 (u1 + b)).toNat * 3, none⟩), .agg (e110Dm p).toArray, .pointer (some ⟨E, (w64 (u1 + b)).toNat * 3, none⟩), .pointer (some ⟨bw, (w64 (u2 + b)).toNat * 3, none⟩), .own tyJob 110 ao1 cap2 (c.set (w64 (u1 + b)).toNat f), m, bx.reg, hMx.perm lpr, (fun _ => by first | rfl | rw [ag]), (fun _ => by first | rfl | rw [ag]), (fun _ => by first | rfl | rw [ag]), (fun _ => by first | rfl | rw [ag]), (fun _ => by first | rfl | rw [ag]), (fun _ => by first | rfl | rw [ag]), (fun _ => by first | rfl | rw [ag]), (fun _ => by first | rfl | rw [ag]), (fun _ => by first | rfl | rw [ag]), (fun _ => by first | rfl | rw [ag]), (fun _ => by first | rfl | rw [ag]), (fun _ => by first | rfl | rw [ag]), (fun _ => by first | rfl | rw [ag]), (fun _ => by first | rfl | rw [ag]), (fun _ => by first | rfl | rw [ag]), (fun _ => by first | rfl | rw [ag]), (fun _ => by first | rfl | rw [ag]), (fun _ => by first | rfl | rw [ag]), (fun _ => by first | rfl | rw [ag]), (fun _ => by first | rfl | rw [ag]), (fun _ => by first | rfl | rw [ag]), (fun _ => by first | rfl | rw [ag]), (tn j), kf2, (nt n), (fun _ => cT), (fun _ => cU), (fun _ => cV), (fun _ => cW)⟩
   obtain rfl := oj hi
   have d := hpre 22 (by kernel_rfl)
   have j := hpre 21 (by kernel_rfl)
   have g := hpre 20 (by kernel_rfl)
   have D := hpre 19 (by kernel_rfl)
   have q := hpre 18 (by kernel_rfl)
   have H := hpre 17 (by kernel_rfl)
   have aR := hpre 16 (by kernel_rfl)
   have aQ := hpre 15 (by kernel_rfl)
   have aV := hpre 14 (by kernel_rfl)
   have ay := hpre 13 (by kernel_rfl)
   have y := hpre 12 (by kernel_rfl)
   have L := hpre 11 (by kernel_rfl)
   have aO := hpre 10 (by kernel_rfl)
   have aN := hpre 9 (by kernel_rfl)
   have aP := hpre 8 (by kernel_rfl)
   have aY := hpre 7 (by kernel_rfl)
   have a3 := hpre 6 (by kernel_rfl)
   have a2 := hpre 5 (by kernel_rfl)
   have a5 := hpre 4 (by kernel_rfl)
   have aS := hpre 3 (by kernel_rfl)
   have aU := hpre 2 (by kernel_rfl)
   have aT := hpre 1 (by kernel_rfl)
   have aW := hpre 0 (by kernel_rfl)
   have n := hSi
   obtain rfl := O aW
   obtain rfl := P aT
   obtain rfl := Q aU
   obtain rfl := an aS
   obtain rfl := R a5
   obtain rfl := U a2
   obtain rfl := V a3
   obtain rfl := ao aY
   obtain rfl := W aP
   obtain rfl := X aN
   obtain rfl := Y aO
   obtain rfl := ap L
   obtain rfl := aD y
   obtain rfl := aL ay
   obtain rfl := aa aV
   obtain rfl := ab aQ
   obtain rfl := ac aR
   obtain rfl := aq H
   obtain rfl := aE q
   obtain rfl := aM D
   obtain rfl := aZ g
   obtain rfl := bb d
   obtain rfl := a4 j n
   refine hG (any_step ?_); clear hG G; intro A J hJ
   have l := Fz.le.trans l m
   have cX := aF y
   have cY := aG q
   have cZ := a1 g
   have bz := bc d
   have ah : (c.set (w64 (u1 + b)).toNat f).length = c.length := by simp; try omega
   have bd : Fr 38 [] [⟨0, [], .slice ao1 (c.set (w64 (u1 + b)).toNat f).length cap2⟩, ⟨1, [], i6 u1⟩, ⟨2, [], i6 u2⟩, ⟨3, [], i6 u3⟩, ⟨10, [], i6 b⟩, ⟨16, [], .slice ao1 (c.set (w64 (u1 + b)).toNat f).length cap2⟩, ⟨17, [], i6 u1⟩, ⟨18, [], i6 b⟩, ⟨19, [], i6 (w64 (u1 + b))⟩, ⟨20, [], .slice ao1 (c.set (w64 (u1 + b)).toNat f).length cap2⟩, ⟨21, [], i6 u2⟩, ⟨22, [], i6 b⟩, ⟨23, [], i6 (w64 (u2 + b))⟩, ⟨24, [], .slice ao1 (c.set (w64 (u1 + b)).toNat f).length cap2⟩, ⟨25, [], i6 u2⟩, ⟨26, [], i6 b⟩, ⟨27, [], i6 (w64 (u2 + b))⟩, ⟨28, [], .pointer (some ⟨z, (w64 (u2 + b)).toNat * 3, none⟩)⟩, ⟨29, [], .agg (e110Dm f).toArray⟩, ⟨30, [], .slice ao1 (c.set (w64 (u1 + b)).toNat f).length cap2⟩, ⟨31, [], i6 u1⟩, ⟨32, [], i6 b⟩, ⟨33, [], i6 (w64 (u1 + b))⟩, ⟨34, [], .pointer (some ⟨C, (w64 (u1 + b)).toNat * 3, none⟩)⟩, ⟨35, [], .agg (e110Dm p).toArray⟩, ⟨36, [], .pointer (some ⟨E, (w64 (u1 + b)).toNat * 3, none⟩)⟩, ⟨37, [], .pointer (some ⟨F, (w64 (u2 + b)).toNat * 3, none⟩)⟩] a := by rw [ah]; exact hFx.reg
   clear hFx
   refine sox bd hMx 0 bz (T := tyJob) (xs := c.set (w64 (u1 + b)).toNat f) (w64 (u2 + b)).toNat p (u := .agg (e110Dm p).toArray) (nog rfl _) rfl rfl (by kernel_rfl) rfl (by kernel_rfl) rfl (by kernel_rfl) (by first | omega | (simp only [List.length_set] at *; omega)) rfl ?_; intro du c0; clear hMx
   refine nl (qnI (hJ _ _ ?_)); clear hJ J
   rw [ah] at bd
   exact ⟨z, C, E, F, .slice ao1 c.length cap2, i6 u1, i6 b, i6 (w64 (u1 + b)), .slice ao1 c.length cap2, i6 u2, i6 b, i6 (w64 (u2 + b)), .slice ao1 c.length cap2, i6 u2, i6 b, i6 (w64 (u2 + b)), .pointer (some ⟨z, (w64 (u2 + b)).toNat * 3, none⟩), .agg (e110Dm f).toArray, .slice ao1 c.length cap2, i6 u1, i6 b, i6 (w64 (u1 + b)), .pointer (some ⟨C, (w64 (u1 + b)).toNat * 3, none⟩), .agg (e110Dm p).toArray, .pointer (some ⟨E, (w64 (u1 + b)).toNat * 3, none⟩), .pointer (some ⟨F, (w64 (u2 + b)).toNat * 3, none⟩), .own tyJob 110 ao1 cap2 ((c.set (w64 (u1 + b)).toNat f).set (w64 (u2 + b)).toNat p), m, bd.reg, c0.perm lpr, (fun _ => by first | rfl | rw [ah]), (fun _ => by first | rfl | rw [ah]), (fun _ => by first | rfl | rw [ah]), (fun _ => by first | rfl | rw [ah]), (fun _ => by first | rfl | rw [ah]), (fun _ => by first | rfl | rw [ah]), (fun _ => by first | rfl | rw [ah]), (fun _ => by first | rfl | rw [ah]), (fun _ => by first | rfl | rw [ah]), (fun _ => by first | rfl | rw [ah]), (fun _ => by first | rfl | rw [ah]), (fun _ => by first | rfl | rw [ah]), (fun _ => by first | rfl | rw [ah]), (fun _ => by first | rfl | rw [ah]), (fun _ => by first | rfl | rw [ah]), (fun _ => by first | rfl | rw [ah]), (fun _ => by first | rfl | rw [ah]), (fun _ => by first | rfl | rw [ah]), (fun _ => by first | rfl | rw [ah]), (fun _ => by first | rfl | rw [ah]), (fun _ => by first | rfl | rw [ah]), (fun _ => by first | rfl | rw [ah]), (tn j), (fun _ => nu), kf, (fun _ => cX), (fun _ => cY), (fun _ => cZ), (fun _ => bz)⟩
  case hE =>
   intro S hS bA dv hI; refine Go.Sy.hid ?_; intro G hG; obtain ⟨z, C, E, F, aj, au, av, ak, M, ad, ae, N, az, aH, aI, aA, aw, al, aB, aJ, aK, aC, ax, am, af, I, aX, m, hFx, hMx, O, P, Q, an, R, U, V, ao, W, X, Y, ap, aD, aL, aa, ab, ac, aq, aE, aM, aZ, bb, ar, a4, bo, aF, aG, a1, hI⟩ := hI; have bc := hI; clear hI; refine hG ?_; clear hG G
   obtain rfl := O (hS 0 (by decide))
   obtain rfl := P (hS 1 (by decide))
   obtain rfl := Q (hS 2 (by decide))
   obtain rfl := an (hS 3 (by decide))
   obtain rfl := R (hS 4 (by decide))
   obtain rfl := U (hS 5 (by decide))
   obtain rfl := V (hS 6 (by decide))
   obtain rfl := ao (hS 7 (by decide))
   obtain rfl := W (hS 8 (by decide))
   obtain rfl := X (hS 9 (by decide))
   obtain rfl := Y (hS 10 (by decide))
   obtain rfl := ap (hS 11 (by decide))
   obtain rfl := aD (hS 12 (by decide))
   obtain rfl := aL (hS 13 (by decide))
   obtain rfl := aa (hS 14 (by decide))
   obtain rfl := ab (hS 15 (by decide))
   obtain rfl := ac (hS 16 (by decide))
   obtain rfl := aq (hS 17 (by decide))
   obtain rfl := aE (hS 18 (by decide))
   obtain rfl := aM (hS 19 (by decide))
   obtain rfl := aZ (hS 20 (by decide))
   obtain rfl := bb (hS 22 (by decide))
   obtain rfl := bo (hS 23 (by decide))
   have l := Fz.le.trans l m
   have dw := aF (hS 12 (by decide))
   have dx := aG (hS 18 (by decide))
   have dy := a1 (hS 20 (by decide))
   have dz := bc (hS 22 (by decide))
   have c1 : ((c.set (w64 (u1 + b)).toNat f).set (w64 (u2 + b)).toNat p).length = c.length := by simp; try omega
   have bB : Fr 38 [] [⟨0, [], .slice ao1 ((c.set (w64 (u1 + b)).toNat f).set (w64 (u2 + b)).toNat p).length cap2⟩, ⟨1, [], i6 u1⟩, ⟨2, [], i6 u2⟩, ⟨3, [], i6 u3⟩, ⟨10, [], i6 b⟩, ⟨16, [], .slice ao1 ((c.set (w64 (u1 + b)).toNat f).set (w64 (u2 + b)).toNat p).length cap2⟩, ⟨17, [], i6 u1⟩, ⟨18, [], i6 b⟩, ⟨19, [], i6 (w64 (u1 + b))⟩, ⟨20, [], .slice ao1 ((c.set (w64 (u1 + b)).toNat f).set (w64 (u2 + b)).toNat p).length cap2⟩, ⟨21, [], i6 u2⟩, ⟨22, [], i6 b⟩, ⟨23, [], i6 (w64 (u2 + b))⟩, ⟨24, [], .slice ao1 ((c.set (w64 (u1 + b)).toNat f).set (w64 (u2 + b)).toNat p).length cap2⟩, ⟨25, [], i6 u2⟩, ⟨26, [], i6 b⟩, ⟨27, [], i6 (w64 (u2 + b))⟩, ⟨28, [], .pointer (some ⟨z, (w64 (u2 + b)).toNat * 3, none⟩)⟩, ⟨29, [], .agg (e110Dm f).toArray⟩, ⟨30, [], .slice ao1 ((c.set (w64 (u1 + b)).toNat f).set (w64 (u2 + b)).toNat p).length cap2⟩, ⟨31, [], i6 u1⟩, ⟨32, [], i6 b⟩, ⟨33, [], i6 (w64 (u1 + b))⟩, ⟨34, [], .pointer (some ⟨C, (w64 (u1 + b)).toNat * 3, none⟩)⟩, ⟨35, [], .agg (e110Dm p).toArray⟩, ⟨36, [], .pointer (some ⟨E, (w64 (u1 + b)).toNat * 3, none⟩)⟩, ⟨37, [], .pointer (some ⟨F, (w64 (u2 + b)).toNat * 3, none⟩)⟩] bA := by rw [c1]; exact hFx.reg
   clear hFx
   refine ibn ?_
   refine thn ?_
   have bC : Fr 38 [] [⟨0, [], .slice ao1 ((c.set (w64 (u1 + b)).toNat f).set (w64 (u2 + b)).toNat p).length cap2⟩, ⟨1, [], i6 u1⟩, ⟨2, [], i6 u2⟩, ⟨3, [], i6 u3⟩, ⟨10, [], i6 b⟩] bA := bB.reg; clear bB
   refine rgB bC hMx [] [] [(10, i6 (w64 (b + 1)))] ?_; intro dA c2; clear bC
   refine rd ?_
   exact ⟨⟨w64 (b + 1), (c.set (w64 (u1 + b)).toNat f).set (w64 (u2 + b)).toNat p⟩, bn.1, bn.2, (c2.reg).anyβ _ (by kernel_rfl), hMx.keep (List.Sublist.cons_cons _ (List.Sublist.refl _))⟩
 have c3 := a7.2 ba; clear a7
 refine wp_exit ?_
 refine thx ?_
 refine thx ?_
 refine ibx ?_
 obtain ⟨c4, c5⟩ := c3
 refine rN (fn := Try.f134) (v := .tuple #[]) a6 (re0 a6 (fn := Try.f134) rfl) ?_
 exact ⟨c, Z, rfl, c5, l, c4, a8.keep (List.Sublist.cons_cons _ (List.Sublist.refl _))⟩

theorem srot_walk (u0 : List Job) (u1 : Int) (u2 : Int) (u3 : Int) (u4 : Job → Job → Int) (ao1 : Option Addr) (cap2 : Nat) (fid3 : Nat) (caps4 : Array Value) (B : Nat) (w0 : World) (Z0 : Fz) (Rr : List Res) (Z : Fz) (w : World) (hf5 : ∀ (Z1 : Fz) (w1 : World), Z.le Z1 → Z1.on w1 → ∀ (x0 : Job) (x1 : Job), Calls Try.prog fid3 (#[.agg #[i6 x0.task, i6 x0.from_, i6 x0.asked], .agg #[i6 x1.task, i6 x1.from_, i6 x1.asked]] ++ caps4) w1 fun e w2 => e = .returned (i6 (u4 x0 x1)) ∧ Below w1.heap.size w1 w2) (hg6 : ∀ x w, Sem.run Try.prog (callFunc fid3 x) w = .ok (.enter fid3 x) w) (hM0 : Mem B [] w0 Z0 ((.own tyJob 110 ao1 cap2 u0) :: Rr) Z w) (hZ : Z.on w) {K : (List Job) → Prop} (hp : srot_vc u0 u1 u2 u3 u4 K) : Calls Try.prog 126 #[.slice ao1 u0.length cap2, i6 u1, i6 u2, i6 u3, .func (.func fid3) #[] caps4] w fun e w' => ∃ (r : (List Job)) (Z' : Fz), e = .returned (.tuple #[]) ∧ K r ∧ Fz.le Z Z' ∧ (r.length = u0.length) ∧ Mem B [] w0 Z0 ((.own tyJob 110 ao1 cap2 r) :: Rr) Z' w' := by
 refine enter0 Try.func126 rfl rfl (by kernel_rfl) ?_; intro a0 y; have d := Fz.le.refl Z
 have al := hp (hM0.ownSmall 0 rfl); clear hp
 refine sqB y hM0 [] [] [(10, i6 (w64 (u2 - u1)))] ?_; intro aQ z; clear y
 refine sqB z hM0 [] [] [(11, i6 (w64 (u3 - u2)))] ?_; intro A C; clear z
 refine wp_seq ?_
 refine wp_block ?_
 have D : Fr 58 [] [⟨0, [], .slice ao1 u0.length cap2⟩, ⟨2, [], i6 u2⟩, ⟨4, [], .func (.func fid3) #[] caps4⟩, ⟨10, [], i6 (w64 (u2 - u1))⟩, ⟨11, [], i6 (w64 (u3 - u2))⟩] A := C.reg; clear C
 have E : Fr 58 [] [⟨0, [], .slice ao1 u0.length cap2⟩, ⟨2, [], i6 u2⟩, ⟨4, [], .func (.func fid3) #[] caps4⟩, ⟨10, [], i6 (w64 (u2 - u1))⟩, ⟨11, [], i6 (w64 (u3 - u2))⟩] A := D.reg; clear D
 obtain ⟨am, an, ao, ap⟩ := al
 have aR := d
 refine lp (ι := Int × Int × (List Job) × Fz) (fun s => [⟨0, [], .slice ao1 s.2.2.1.length cap2⟩, ⟨2, [], i6 u2⟩, ⟨4, [], .func (.func fid3) #[] caps4⟩, ⟨10, [], i6 s.1⟩, ⟨11, [], i6 s.2.1⟩]) (fun s => ((.own tyJob 110 ao1 cap2 s.2.2.1) :: Rr)) (fun s => s.2.2.2) (fun s => am s.1 s.2.1 s.2.2.1 ∧ Fz.le Z s.2.2.2) (fun s => an s.1 s.2.1 s.2.2.1) ⟨w64 (u2 - u1), w64 (u3 - u2), u0, Z⟩ ⟨ao, Fz.le.refl _⟩ (by exact E.reg) (by exact hM0) ?_
 rintro ⟨a, b, f, aq⟩ ⟨ar, g⟩ au av F G
 have H : Fr 58 [] [⟨0, [], .slice ao1 f.length cap2⟩, ⟨2, [], i6 u2⟩, ⟨4, [], .func (.func fid3) #[] caps4⟩, ⟨10, [], i6 a⟩, ⟨11, [], i6 b⟩] au := F; clear F E
 have c : Mem B [] w0 Z0 ((.own tyJob 110 ao1 cap2 f) :: Rr) aq av := G; clear G hM0
 have j := ap a b f ar
 replace d := Fz.le.trans d g
 refine wp_seq ?_
 refine sqB H c [] [] [(20, .bool (a != b))] ?_; intro aS h; clear H
 refine cd h (t := a != b) (by kernel_rfl) (fun o => ?_) (fun o => ?_)
 ·
  have k := j.1 o; clear j
  refine wp_skip ?_
  refine thn ?_
  refine wp_block ?_
  refine sqB h c [] [] [(23, .bool (decide (a > b)))] ?_; intro aT i; clear h
  refine cd i (t := decide (a > b)) (by kernel_rfl) (fun p => ?_) (fun p => ?_)
  ·
   have aw := k.1 p; clear k
   refine sqH ?_; intro ax I
   refine bt i c 7 [] [] [(24, .slice ao1 f.length cap2), (27, i6 (w64 (u2 - a))), (28, i6 u2), (29, i6 b), (30, .func (.func fid3) #[] caps4)] ?_; intro aU J; clear i
   refine ck J 134 #[.slice ao1 f.length cap2, i6 (w64 (u2 - a)), i6 u2, i6 b, .func (.func fid3) #[] caps4] ?_
   refine (sswap_walk f (w64 (u2 - a)) u2 b u4 ao1 cap2 fid3 caps4 _ _ _ _ _ _ (fun Z1 w1 h1 h2 => hf5 Z1 w1 (d.trans h1) h2) hg6 c c.fz aw).mono ?_; rintro _ ay ⟨l, L, rfl, M, N, az, hm⟩; refine ⟨_, rfl, ?_⟩; intro aA O; have P := hm; clear hm c J
   replace g := g.mono N
   replace d := Fz.le.trans d N
   have Q : Fr 58 [] [⟨0, [], .slice ao1 l.length cap2⟩, ⟨2, [], i6 u2⟩, ⟨4, [], .func (.func fid3) #[] caps4⟩, ⟨10, [], i6 a⟩, ⟨11, [], i6 b⟩, ⟨20, [], .bool (a != b)⟩, ⟨23, [], .bool (decide (a > b))⟩, ⟨24, [], .slice ao1 l.length cap2⟩, ⟨27, [], i6 (w64 (u2 - a))⟩, ⟨28, [], i6 u2⟩, ⟨29, [], i6 b⟩, ⟨30, [], .func (.func fid3) #[] caps4⟩, ⟨31, [], .tuple #[]⟩] aA := by rw [az]; exact O.reg
   clear O
   have q : Mem B [] w0 Z0 ((.own tyJob 110 ao1 cap2 l) :: Rr) L ay := P; clear P
   have R := M (q.ownSmall 0 rfl); clear M
   refine nlH (I _ _ ?_); clear I ax
   refine rgB Q q [] [] [(10, i6 (w64 (a - b)))] ?_; intro aV aB; clear Q
   refine ibn ?_
   refine rd ?_
   exact ⟨⟨w64 (a - b), b, l, L⟩, ⟨R.1, g⟩, R.2, (aB.reg).anyβ _ (by kernel_rfl), q.keep (List.Sublist.cons_cons _ (List.Sublist.refl _))⟩
  have aC := k.2 p; clear k
  refine sqH ?_; intro aD S
  refine bt i c 11 [] [] [(35, .slice ao1 f.length cap2), (38, i6 (w64 (u2 - a))), (43, i6 (w64 ((w64 (u2 + b)) - a))), (44, i6 a), (45, .func (.func fid3) #[] caps4)] ?_; intro aW T; clear i
  refine ck T 134 #[.slice ao1 f.length cap2, i6 (w64 (u2 - a)), i6 (w64 ((w64 (u2 + b)) - a)), i6 a, .func (.func fid3) #[] caps4] ?_
  refine (sswap_walk f (w64 (u2 - a)) (w64 ((w64 (u2 + b)) - a)) a u4 ao1 cap2 fid3 caps4 _ _ _ _ _ _ (fun Z1 w1 h1 h2 => hf5 Z1 w1 (d.trans h1) h2) hg6 c c.fz aC).mono ?_; rintro _ aE ⟨m, U, rfl, V, W, aF, hm⟩; refine ⟨_, rfl, ?_⟩; intro aG X; have Y := hm; clear hm c T
  replace g := g.mono W
  replace d := Fz.le.trans d W
  have aa : Fr 58 [] [⟨0, [], .slice ao1 m.length cap2⟩, ⟨2, [], i6 u2⟩, ⟨4, [], .func (.func fid3) #[] caps4⟩, ⟨10, [], i6 a⟩, ⟨11, [], i6 b⟩, ⟨20, [], .bool (a != b)⟩, ⟨23, [], .bool (decide (a > b))⟩, ⟨35, [], .slice ao1 m.length cap2⟩, ⟨38, [], i6 (w64 (u2 - a))⟩, ⟨43, [], i6 (w64 ((w64 (u2 + b)) - a))⟩, ⟨44, [], i6 a⟩, ⟨45, [], .func (.func fid3) #[] caps4⟩, ⟨46, [], .tuple #[]⟩] aG := by rw [aF]; exact X.reg
  clear X
  have u : Mem B [] w0 Z0 ((.own tyJob 110 ao1 cap2 m) :: Rr) U aE := Y; clear Y
  have ab := V (u.ownSmall 0 rfl); clear V
  refine nlH (S _ _ ?_); clear S aD
  refine rgB aa u [] [] [(11, i6 (w64 (b - a)))] ?_; intro aX aH; clear aa
  refine ibn ?_
  refine rd ?_
  exact ⟨⟨a, w64 (b - a), m, U⟩, ⟨ab.1, g⟩, ab.2, (aH.reg).anyβ _ (by kernel_rfl), u.keep (List.Sublist.cons_cons _ (List.Sublist.refl _))⟩
 have aI := j.2 o; clear j
 refine wp_exit ?_
 refine thx ?_
 refine thx ?_
 refine ibx ?_
 refine thn ?_
 refine rgH ?_; intro aJ ac
 refine bt h c 7 [] [] [(50, .slice ao1 f.length cap2), (53, i6 (w64 (u2 - a))), (54, i6 u2), (55, i6 a), (56, .func (.func fid3) #[] caps4)] ?_; intro aY ad; clear h
 refine ck ad 134 #[.slice ao1 f.length cap2, i6 (w64 (u2 - a)), i6 u2, i6 a, .func (.func fid3) #[] caps4] ?_
 refine (sswap_walk f (w64 (u2 - a)) u2 a u4 ao1 cap2 fid3 caps4 _ _ _ _ _ _ (fun Z1 w1 h1 h2 => hf5 Z1 w1 (d.trans h1) h2) hg6 c c.fz aI).mono ?_; rintro _ aK ⟨n, ae, rfl, af, ag, aL, hm⟩; refine ⟨_, rfl, ?_⟩; intro aM ah; have ai := hm; clear hm c ad
 replace g := g.mono ag
 replace d := Fz.le.trans d ag
 have aj : Fr 58 [] [⟨0, [], .slice ao1 n.length cap2⟩, ⟨2, [], i6 u2⟩, ⟨4, [], .func (.func fid3) #[] caps4⟩, ⟨10, [], i6 a⟩, ⟨11, [], i6 b⟩, ⟨20, [], .bool (a != b)⟩, ⟨50, [], .slice ao1 n.length cap2⟩, ⟨53, [], i6 (w64 (u2 - a))⟩, ⟨54, [], i6 u2⟩, ⟨55, [], i6 a⟩, ⟨56, [], .func (.func fid3) #[] caps4⟩, ⟨57, [], .tuple #[]⟩] aM := by rw [aL]; exact ah.reg
 clear ah
 have ak : Mem B [] w0 Z0 ((.own tyJob 110 ao1 cap2 n) :: Rr) ae aK := ai; clear ai
 have aN := af (ak.ownSmall 0 rfl); clear af
 refine nlH (ac _ _ ?_); clear ac aJ
 obtain ⟨aO, aP⟩ := aN
 refine rN (fn := Try.f126) (v := .tuple #[]) aj (re0 aj (fn := Try.f126) rfl) ?_
 exact ⟨n, ae, rfl, aP, d, aO, ak.keep (List.Sublist.cons_cons _ (List.Sublist.refl _))⟩

end Go.Proofs.Ytginlmgkimfjmaa
