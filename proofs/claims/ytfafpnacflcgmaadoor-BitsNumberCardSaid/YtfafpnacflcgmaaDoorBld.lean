/- What a builder of strings holds, as memory of the calls here; no program in sight. -/
import Derived.Test.YtfafpnacflcgmaaDoorCore
import Derived.Shelf.Lay
import Derived.Ground.NamesProg
import Derived.Shelf.Strings.Builder1
namespace Go.Sy
open Go.Proofs Go.Shelf Go.RowKit
variable {P : Program} {ρ : Ren} {B b : Nat} {w0 : World} {Z : Fz} {w w' : World} {T e : TypeId} {ao : Option Addr} {cap : Nat} {p : Value}
theorem repBytes {Z : Fz} {cells : List Value} {xs : List UInt8} (h : RepAll tyByte Z cells xs) : cells = Lib.byteCells xs := by
  have hl : cells.length = xs.length * 1 := h.1
  apply List.ext_getElem?
  intro i
  unfold Lib.byteCells
  rw [List.getElem?_map]
  rcases Nat.lt_or_ge i xs.length with hi | hi
  · have hx : xs[i]? = some xs[i] := List.getElem?_eq_getElem hi
    have hr : ((cells.drop (i * 1)).take 1) = [.int .u8 (xs[i].toNat : Int)] := h.2 i _ hx
    rw [hx, Nat.mul_one] at *
    have := congrArg (fun l => l[0]?) hr
    simpa using this
  · rw [List.getElem?_eq_none (by omega), List.getElem?_eq_none hi]
    rfl
theorem bytesRep (Z : Fz) (xs : List UInt8) : RepAll tyByte Z (Lib.byteCells xs) xs := by
  refine ⟨by simp [Lib.byteCells, tyByte], fun i x hx => ?_⟩
  show ((Lib.byteCells xs).drop (i * 1)).take 1 = [.int .u8 (x.toNat : Int)]
  have hi := (List.getElem?_eq_some_iff.1 hx).1
  unfold Lib.byteCells
  rw [Nat.mul_one, List.drop_eq_getElem_cons (by simpa using hi)]
  have hx2 : xs[i] = x := (List.getElem?_eq_some_iff.1 hx).2
  simp [hx2]
/-- The memory of a call that has one builder and nothing else of its own. -/
abbrev BldR (b : Nat) (p : Value) (T e : TypeId) (ao : Option Addr) (cap : Nat) (xs : List UInt8) : List Res := [.row b [p, .slice ao xs.length cap] T, .own tyByte e ao cap xs]
theorem bld_is {xs : List UInt8} (hM : Mem B [] w0 Z (BldR b p T e ao cap xs) Z w) (hp : p = .pointer none ∨ p = .pointer (some ⟨b, 0, none⟩)) : Lib.IsBuilder T e B b (Lib.byteCells xs) w := by
  have h1 := hM.res (.row b [p, .slice ao xs.length cap] T) (by simp)
  have h2 := hM.res (.own tyByte e ao cap xs) (by simp)
  obtain ⟨_, _, cells, ho, hr⟩ := h2
  have hc := repBytes hr
  subst hc
  have hl : (Lib.byteCells xs).length = xs.length := Lib.byteCells_length xs
  have hB : B ≤ b := h1.1.elim id (by simp)
  have hn : (Value.slice ao xs.length cap).ownBlock ≠ some b := by
    have hnd := (List.pairwise_cons.1 hM.nd).1 (.own tyByte e ao cap xs) (by simp) b rfl
    cases ao with
    | none => simp [Value.ownBlock]
    | some ad => simpa [Value.ownBlock, Res.foot] using hnd
  have hA : Lib.BuilderAt T e B b p (Lib.byteCells xs) w := ⟨hB, _, h1.2, by rw [hl]; exact ho, hn⟩
  rcases hp with rfl | rfl
  · exact .inl hA
  · exact .inr hA
theorem bld_back {R : List Res} {ys : List UInt8} (hM : Mem B [] w0 Z R Z w) (hZB : ∀ k o, Z k = some o → k < B) (hA : Lib.BuilderAt T e B b (.pointer (some ⟨b, 0, none⟩)) (Lib.byteCells ys) w') (hb : Below B w w') (hl : ys.length ≤ lim) :
    ∃ ao cap, Mem B [] w0 Z (BldR b (.pointer (some ⟨b, 0, none⟩)) T e ao cap ys) Z w' := by
  obtain ⟨hBb, v, hv, ho, hne⟩ := hA
  rw [Lib.byteCells_length] at ho
  have hshape : ∃ ao cap, v = .slice ao ys.length cap := by
    rcases ho.2 with ⟨e1, e2⟩ | ⟨g, c, cur, e1, _⟩
    · exact ⟨none, 0, by rw [e1, e2]⟩
    · exact ⟨_, c, e1⟩
  obtain ⟨ao, cap, rfl⟩ := hshape
  have hsz := hb.size
  have hbase : B ≤ w'.heap.size := Nat.le_trans hM.base hsz
  have hfb : ∀ k, (Res.own tyByte e ao cap ys).foot = some k → B ≤ k ∧ k ≠ b := by
    intro k hk
    cases ao with
    | none => simp [Res.foot] at hk
    | some ad =>
      simp only [Res.foot, Option.map_some, Option.some.injEq] at hk
      subst hk
      refine ⟨(World.ownsRow.lt ho ad.block rfl).1, fun hc => hne ?_⟩
      rw [← hc]
      rfl
  refine ⟨ao, cap, ⟨hM.kept.os ▸ hb.os, hM.kept.tape ▸ hb.tape, hM.kept.output ▸ hb.output, Nat.le_trans hM.kept.size hsz, fun k hk hU => (hb.block k hk).trans (hM.kept.block k hk hU)⟩, hbase, ?_, ?_, fun k o hk => by rw [hb.block k (hZB k o hk)]; exact hM.fz k o hk, hM.ext, ?_⟩
  · intro r hr
    rcases List.mem_cons.1 hr with rfl | hr
    · exact ⟨.inl hBb, hv⟩
    · rcases List.mem_cons.1 hr with rfl | hr
      · exact ⟨Nat.one_pos, hl, _, ho, bytesRep Z ys⟩
      · cases hr
  · refine List.Pairwise.cons (fun s hs k hk hc => ?_) (List.Pairwise.cons (by simp) List.Pairwise.nil)
    simp only [List.mem_cons, List.not_mem_nil, or_false] at hs
    subst hs
    have hkb : k = b := by simpa [Res.foot, eq_comm] using hk
    exact (hfb k hc).2 hkb
  · intro r hr k hk
    have hBk : B ≤ k := by
      rcases List.mem_cons.1 hr with rfl | hr
      · have : k = b := by simpa [Res.foot, eq_comm] using hk
        omega
      · rcases List.mem_cons.1 hr with rfl | hr
        · exact (hfb k hk).1
        · cases hr
    cases hz : Z k with
    | none => rfl
    | some o => have := hZB k o hz; omega
theorem Mem.bldNil (hM : Mem B [] w0 Z [.row b [p, .slice none 0 0] T] Z w) (e : TypeId) : Mem B [] w0 Z (BldR b p T e none 0 []) Z w :=
  ((hM.addNil tyByte e Nat.one_pos).perm (List.Perm.swap _ _ _))
theorem bld_write (L : Lays.n166 P ρ) (X : Builder.Extra P ρ) {xs s : List UInt8} (hM : Mem B [] w0 Z (BldR b p (ρ.t 72) (ρ.t 5) ao cap xs) Z w) (hZB : ∀ k o, Z k = some o → k < B) (hp : p = .pointer none ∨ p = .pointer (some ⟨b, 0, none⟩)) (hl : xs.length + s.length ≤ 140737488355328) :
    Calls P (ρ.f 166) #[.pointer (some ⟨b, 0, none⟩), str s] w fun e w' => ∃ ao' cap', e = .returned (.tuple #[.int .i64 (s.length : Int), .nilIface]) ∧ Mem B [] w0 Z (BldR b (.pointer (some ⟨b, 0, none⟩)) (ρ.t 72) (ρ.t 5) ao' cap' (xs ++ s)) Z w' := by
  refine (Any.Builder_WriteString L X B b _ ⟨⟨s⟩⟩ w (bld_is hM hp) (by rw [Lib.byteCells_length]; exact hl) hM.base).mono fun e1 w1 ⟨he, hA, hb⟩ => ?_
  have e2 : Lib.byteCells xs ++ Lib.strCells ⟨⟨s⟩⟩ = Lib.byteCells (xs ++ s) := by simp [Lib.byteCells, Lib.strCells]
  rw [e2] at hA
  obtain ⟨ao', cap', h⟩ := bld_back hM hZB hA hb (by rw [List.length_append]; exact hl)
  exact ⟨ao', cap', he, h⟩
theorem bld_string (L : Lays.n169 P ρ) (X : Builder.Extra P ρ) {xs : List UInt8} (hM : Mem B [] w0 Z (BldR b p (ρ.t 72) (ρ.t 5) ao cap xs) Z w) (hZB : ∀ k o, Z k = some o → k < B) (hp : p = .pointer none ∨ p = .pointer (some ⟨b, 0, none⟩)) :
    Calls P (ρ.f 169) #[.pointer (some ⟨b, 0, none⟩)] w fun e w' => e = .returned (str xs) ∧ Mem B [] w0 Z [] Z w' := by
  refine (Any.Builder_String_any L X B b xs w (bld_is hM hp) hM.base).mono fun e1 w1 ⟨he, hb⟩ => ⟨he, ?_⟩
  exact ⟨⟨hM.kept.os ▸ hb.os, hM.kept.tape ▸ hb.tape, hM.kept.output ▸ hb.output, Nat.le_trans hM.kept.size hb.size, fun k hk hU => (hb.block k hk).trans (hM.kept.block k hk hU)⟩, Nat.le_trans hM.base hb.size, by simp, List.Pairwise.nil, fun k o hk => by rw [hb.block k (hZB k o hk)]; exact hM.fz k o hk, hM.ext, by simp⟩
theorem zB {w : World} (h : Z.on w) : ∀ k o, Z k = some o → k < w.heap.size := fun k o hk => lt_of_get (h k o hk)
end Go.Sy
