/- Texts put together (pure ones, or walks made by program). -/
import Derived.Test.YtginlmgkimfjmaaDM0
import Derived.Test.YtginlmgkimfjmaaDM1
import Derived.Shelf.Lay
import Derived.Ground.NamesProg
import Derived.Shelf.Strings.Builder1
import Derived.Lib.OwnKind
import Derived.Test.YtginlmgkimfjmaaRows
namespace Go.Sy
open Go.Proofs Go.Shelf Go.RowKit
variable {P : Program} {ρ : Ren} {B b : Nat} {w0 : World} {Z : Fz} {w w' : World} {T e : TypeId} {ao : Option Addr} {cap : Nat} {p : Value}
theorem repBytes {Z : Fz} {cells : List Value} {xs : List UInt8} (h : RepAll tyByte Z cells xs) : cells = Lib.byteCells xs := by
  have hl : cells.length = xs.length * 1 := h.1
  apply List.ext_getElem?
  intro i
  unfold Lib.byteCells
  rw [List.getElem?_map]
  rcases Nat.lt_or_ge i xs.length with hi | hi
  · have hx : xs[i]? = some xs[i] := List.getElem?_eq_getElem hi
    have hr : ((cells.drop (i * 1)).take 1) = [.int .u8 (xs[i].toNat : Int)] := h.2 i _ hx
    rw [hx, Nat.mul_one] at *
    have := congrArg (fun l => l[0]?) hr
    simpa using this
  · rw [List.getElem?_eq_none (by omega), List.getElem?_eq_none hi]
    rfl
theorem bytesRep (Z : Fz) (xs : List UInt8) : RepAll tyByte Z (Lib.byteCells xs) xs := by
  refine ⟨by simp [Lib.byteCells, tyByte], fun i x hx => ?_⟩
  show ((Lib.byteCells xs).drop (i * 1)).take 1 = [.int .u8 (x.toNat : Int)]
  have hi := (List.getElem?_eq_some_iff.1 hx).1
  unfold Lib.byteCells
  rw [Nat.mul_one, List.drop_eq_getElem_cons (by simpa using hi)]
  have hx2 : xs[i] = x := (List.getElem?_eq_some_iff.1 hx).2
  simp [hx2]
/-- The memory of a call that has one builder and nothing else of its own. -/
abbrev BldR (b : Nat) (p : Value) (T e : TypeId) (ao : Option Addr) (cap : Nat) (xs : List UInt8) : List Res := [.row b [p, .slice ao xs.length cap] T, .own tyByte e ao cap xs]
theorem bld_is {xs : List UInt8} (hM : Mem B [] w0 Z (BldR b p T e ao cap xs) Z w) (hp : p = .pointer none ∨ p = .pointer (some ⟨b, 0, none⟩)) : Lib.IsBuilder T e B b (Lib.byteCells xs) w := by
  have h1 := hM.res (.row b [p, .slice ao xs.length cap] T) (by simp)
  have h2 := hM.res (.own tyByte e ao cap xs) (by simp)
  obtain ⟨_, _, cells, ho, hr⟩ := h2
  have hc := repBytes hr
  subst hc
  have hl : (Lib.byteCells xs).length = xs.length := Lib.byteCells_length xs
  have hB : B ≤ b := h1.1.elim id (by simp)
  have hn : (Value.slice ao xs.length cap).ownBlock ≠ some b := by
    have hnd := (List.pairwise_cons.1 hM.nd).1 (.own tyByte e ao cap xs) (by simp) b rfl
    cases ao with
    | none => simp [Value.ownBlock]
    | some ad => simpa [Value.ownBlock, Res.foot] using hnd
  have hA : Lib.BuilderAt T e B b p (Lib.byteCells xs) w := ⟨hB, _, h1.2, by rw [hl]; exact ho, hn⟩
  rcases hp with rfl | rfl
  · exact .inl hA
  · exact .inr hA
theorem bld_back {R : List Res} {ys : List UInt8} (hM : Mem B [] w0 Z R Z w) (hZB : ∀ k o, Z k = some o → k < B) (hA : Lib.BuilderAt T e B b (.pointer (some ⟨b, 0, none⟩)) (Lib.byteCells ys) w') (hb : Below B w w') (hl : ys.length ≤ lim) :
    ∃ ao cap, Mem B [] w0 Z (BldR b (.pointer (some ⟨b, 0, none⟩)) T e ao cap ys) Z w' := by
  obtain ⟨hBb, v, hv, ho, hne⟩ := hA
  rw [Lib.byteCells_length] at ho
  have hshape : ∃ ao cap, v = .slice ao ys.length cap := by
    rcases ho.2 with ⟨e1, e2⟩ | ⟨g, c, cur, e1, _⟩
    · exact ⟨none, 0, by rw [e1, e2]⟩
    · exact ⟨_, c, e1⟩
  obtain ⟨ao, cap, rfl⟩ := hshape
  have hsz := hb.size
  have hbase : B ≤ w'.heap.size := Nat.le_trans hM.base hsz
  have hfb : ∀ k, (Res.own tyByte e ao cap ys).foot = some k → B ≤ k ∧ k ≠ b := by
    intro k hk
    cases ao with
    | none => simp [Res.foot] at hk
    | some ad =>
      simp only [Res.foot, Option.map_some, Option.some.injEq] at hk
      subst hk
      refine ⟨(World.ownsRow.lt ho ad.block rfl).1, fun hc => hne ?_⟩
      rw [← hc]
      rfl
  refine ⟨ao, cap, ⟨hM.kept.os ▸ hb.os, hM.kept.tape ▸ hb.tape, hM.kept.output ▸ hb.output, Nat.le_trans hM.kept.size hsz, fun k hk hU => (hb.block k hk).trans (hM.kept.block k hk hU)⟩, hbase, ?_, ?_, fun k o hk => by rw [hb.block k (hZB k o hk)]; exact hM.fz k o hk, hM.ext, ?_⟩
  · intro r hr
    rcases List.mem_cons.1 hr with rfl | hr
    · exact ⟨.inl hBb, hv⟩
    · rcases List.mem_cons.1 hr with rfl | hr
      · exact ⟨Nat.one_pos, hl, _, ho, bytesRep Z ys⟩
      · cases hr
  · refine List.Pairwise.cons (fun s hs k hk hc => ?_) (List.Pairwise.cons (by simp) List.Pairwise.nil)
    simp only [List.mem_cons, List.not_mem_nil, or_false] at hs
    subst hs
    have hkb : k = b := by simpa [Res.foot, eq_comm] using hk
    exact (hfb k hc).2 hkb
  · intro r hr k hk
    have hBk : B ≤ k := by
      rcases List.mem_cons.1 hr with rfl | hr
      · have : k = b := by simpa [Res.foot, eq_comm] using hk
        omega
      · rcases List.mem_cons.1 hr with rfl | hr
        · exact (hfb k hk).1
        · cases hr
    cases hz : Z k with
    | none => rfl
    | some o => have := hZB k o hz; omega
theorem Mem.bldNil (hM : Mem B [] w0 Z [.row b [p, .slice none 0 0] T] Z w) (e : TypeId) : Mem B [] w0 Z (BldR b p T e none 0 []) Z w :=
  ((hM.addNil tyByte e Nat.one_pos).perm (List.Perm.swap _ _ _))
theorem bld_write (L : Lays.n166 P ρ) (X : Builder.Extra P ρ) {xs s : List UInt8} (hM : Mem B [] w0 Z (BldR b p (ρ.t 72) (ρ.t 5) ao cap xs) Z w) (hZB : ∀ k o, Z k = some o → k < B) (hp : p = .pointer none ∨ p = .pointer (some ⟨b, 0, none⟩)) (hl : xs.length + s.length ≤ 140737488355328) :
    Calls P (ρ.f 166) #[.pointer (some ⟨b, 0, none⟩), str s] w fun e w' => ∃ ao' cap', e = .returned (.tuple #[.int .i64 (s.length : Int), .nilIface]) ∧ Mem B [] w0 Z (BldR b (.pointer (some ⟨b, 0, none⟩)) (ρ.t 72) (ρ.t 5) ao' cap' (xs ++ s)) Z w' := by
  refine (Any.Builder_WriteString L X B b _ ⟨⟨s⟩⟩ w (bld_is hM hp) (by rw [Lib.byteCells_length]; exact hl) hM.base).mono fun e1 w1 ⟨he, hA, hb⟩ => ?_
  have e2 : Lib.byteCells xs ++ Lib.strCells ⟨⟨s⟩⟩ = Lib.byteCells (xs ++ s) := by simp [Lib.byteCells, Lib.strCells]
  rw [e2] at hA
  obtain ⟨ao', cap', h⟩ := bld_back hM hZB hA hb (by rw [List.length_append]; exact hl)
  exact ⟨ao', cap', he, h⟩
theorem bld_string (L : Lays.n169 P ρ) (X : Builder.Extra P ρ) {xs : List UInt8} (hM : Mem B [] w0 Z (BldR b p (ρ.t 72) (ρ.t 5) ao cap xs) Z w) (hZB : ∀ k o, Z k = some o → k < B) (hp : p = .pointer none ∨ p = .pointer (some ⟨b, 0, none⟩)) :
    Calls P (ρ.f 169) #[.pointer (some ⟨b, 0, none⟩)] w fun e w' => e = .returned (str xs) ∧ Mem B [] w0 Z [] Z w' := by
  refine (Any.Builder_String_any L X B b xs w (bld_is hM hp) hM.base).mono fun e1 w1 ⟨he, hb⟩ => ⟨he, ?_⟩
  exact ⟨⟨hM.kept.os ▸ hb.os, hM.kept.tape ▸ hb.tape, hM.kept.output ▸ hb.output, Nat.le_trans hM.kept.size hb.size, fun k hk hU => (hb.block k hk).trans (hM.kept.block k hk hU)⟩, Nat.le_trans hM.base hb.size, by simp, List.Pairwise.nil, fun k o hk => by rw [hb.block k (hZB k o hk)]; exact hM.fz k o hk, hM.ext, by simp⟩
theorem bldCC (L : Lays.n240 P ρ) (X : Builder.X72 P ρ) (B b : Nat) (bs : List Value) (w : World) (h : Lib.IsBuilder (ρ.t 72) (ρ.t 5) B b bs w) :
    Calls P (ρ.f 240) #[.pointer (some ⟨b, 0, none⟩)] w fun e w' => e = .returned (.tuple #[]) ∧ Lib.BuilderAt (ρ.t 72) (ρ.t 5) B b (.pointer (some ⟨b, 0, none⟩)) bs w' ∧ Below B w w' ∧ ∀ k, k ≠ b → w'.heap[k]? = w.heap[k]? := by
  -- by hand
  rcases h with h | h
  · exact (Any.Builder_copyCheck_fresh L X b w h.cell0 h.shape h.frozen0).mono fun e w' ⟨h1, h2⟩ => by
      subst h2
      exact ⟨h1, h.used _, (Below.refl B w).setCell (p := ⟨b, 0, none⟩) h.1 _, fun k hk => Below.heap_setCell _ _ _ _ hk⟩
  · exact (Any.Builder_copyCheck_used L X b w h.cell0).mono fun e w' ⟨h1, h2⟩ => by
      subst h2
      exact ⟨h1, h, Below.refl B _, fun _ _ => rfl⟩
set_option maxHeartbeats 1000000 in
set_option maxRecDepth 100000 in
theorem bldWS (L : Lays.n166 P ρ) (X : Builder.Extra P ρ) (B b : Nat) (bs : List Value) (s : ByteArray) (w : World) (h : Lib.IsBuilder (ρ.t 72) (ρ.t 5) B b bs w) (hlen : bs.length + s.size ≤ 140737488355328) (hBw : B ≤ w.heap.size) :
    Calls P (ρ.f 166) #[.pointer (some ⟨b, 0, none⟩), .string s] w fun e w' => e = .returned (.tuple #[.int .i64 s.size, .nilIface]) ∧ Lib.BuilderAt (ρ.t 72) (ρ.t 5) B b (.pointer (some ⟨b, 0, none⟩)) (bs ++ Lib.strCells s) w' ∧ Below B w w' ∧
      ∀ k cs t fr, w.heap[k]? = some (.cells cs t fr) → k ≠ b → t ≠ ρ.t 5 → w'.heap[k]? = some (.cells cs t fr) := by
  -- by hand
  obtain ⟨i0, hi, hz0, hz1, hz2⟩ := info_parts X.infoByte
  have mixed := L.mixed
  have t72 := L.t72; have a72 := L.a72; have z72 := L.z72; have v72 := L.v72; have u72 := run_underlying L.t72
  have t70 := L.t70; have a70 := L.a70; have z70 := L.z70; have v70 := L.v70; have u70 := run_underlying L.t70
  have t37 := L.t37; have a37 := L.a37; have z37 := L.z37; have v37 := L.v37; have u37 := run_underlying L.t37
  have t3 := L.t3; have a3 := L.a3; have z3 := L.z3; have v3 := L.v3; have u3 := run_underlying L.t3
  have t9 := L.t9; have a9 := L.a9; have z9 := L.z9; have v9 := L.v9; have u9 := run_underlying L.t9
  have t4 := L.t4; have a4 := L.a4; have z4 := L.z4; have v4 := L.v4; have u4 := run_underlying L.t4
  have t164 := L.t164; have a164 := L.a164; have z164 := L.z164; have v164 := L.v164; have u164 := run_underlying L.t164
  have t5 := X.t5; have a5 := X.a5; have z5 := X.z5; have v5 := X.v5; have u5 := run_underlying X.t5
  have e240 : ∀ args w, (callFunc (ρ.f 240) args).run P w = .ok (.enter (ρ.f 240) args) w := enters_of L.f240 (by kernel_rfl) rfl
  go_enter L.f166, Body.n166_ntmps ρ
  go_wp2_with (go_at_fn (ρ.f 240); refine (bldCC { L with } X.toX72 B b bs _ h).mono ?_)
  rintro e w1 ⟨rfl, hA, hb, hk⟩
  obtain ⟨hB, v, hv, hown, hne⟩ := hA
  have c0 : w1.cell? ⟨b, 0, none⟩ = some (.pointer (some ⟨b, 0, none⟩)) := by rw [Lib.cell_of_heap hv]; rfl
  have c1 : w1.cell? ⟨b, 1, none⟩ = some v := by rw [Lib.cell_of_heap hv]; rfl
  have hsz := hb.size
  go_wp2_with (at_builtin; refine Lib.wpList_append_own_string _ rfl _ _ (ρ.t 37) (ρ.t 9) rfl B (ρ.t 5) i0 L.t37 L.t9 hi hz0 hz1 hz2 _ _ _ rfl hown s rfl (by unfold maxLen; omega) (by omega) (by omega) ?_)
  intro v' w2 hown' hg _
  have hb2 : w2.heap[b]? = some (.cells #[.pointer (some ⟨b, 0, none⟩), v] (ρ.t 72) (0, 0)) := (hg.block b (lt_of_get hv) (fun e => hne e.symm)).trans hv
  have d0 : w2.cell? ⟨b, 0, none⟩ = some (.pointer (some ⟨b, 0, none⟩)) := by rw [Lib.cell_of_heap hb2]; rfl
  have d1 : w2.cell? ⟨b, 1, none⟩ = some v := by rw [Lib.cell_of_heap hb2]; rfl
  have f1 : w2.frozen? ⟨b, 1, none⟩ = false := Lib.frozen_of_heap hb2 1
  obtain ⟨ao, n', cap, rfl⟩ : ∃ ao n' cap, v' = .slice ao n' cap := by rcases hown'.2 with ⟨h9, _⟩ | ⟨_, _, _, h9, _⟩ <;> exact ⟨_, _, _, h9⟩
  go_wp2
  go_ret2
  refine ⟨rfl, Lib.BuilderAt.put (T := (ρ.t 72)) (e := (ρ.t 5)) hB hb2 (bs' := bs ++ Lib.strCells s) (by simpa [Lib.strCells_length] using hown') X.neB5, (hb.grown hg (by omega) (fun k hk => (hown.lt k hk).1)).setCell (p := ⟨b, 1, none⟩) hB _, fun k cs t fr h1 h2 h3 => ?_⟩
  have h4 : w1.heap[k]? = some (.cells cs t fr) := (hk k h2).trans h1
  rw [Below.heap_setCell _ _ _ _ h2, hg.block k (lt_of_get h4) (fun h5 => ?_)]
  · exact h4
  · obtain ⟨c6, f6, h6⟩ := Lib.ownsRow_kind hown k h5.symm
    rw [h4] at h6
    simp only [Option.some.injEq, Obj.cells.injEq] at h6
    exact h3 h6.2.1
def restB (e : TypeId) (Rs : List Res) : Bool := Rs.all fun r => match r with | .row _ _ t => t != e | _ => false
theorem Mem.part {U : List Nat} {Z0 Z : Fz} {R Rs : List Res} {w : World} (hM : Mem B U w0 Z0 (R ++ Rs) Z w) : Mem B U w0 Z0 R Z w :=
  -- by hand
  ⟨hM.kept, hM.base, fun r hr => hM.res r (List.mem_append_left _ hr), (List.pairwise_append.1 hM.nd).1, hM.fz, hM.ext, fun r hr => hM.apart r (List.mem_append_left _ hr)⟩
theorem bld_writeR (L : Lays.n166 P ρ) (X : Builder.Extra P ρ) {xs s : List UInt8} {Rs : List Res} (hM : Mem B [] w0 Z (.row b [p, .slice ao xs.length cap] (ρ.t 72) :: .own tyByte (ρ.t 5) ao cap xs :: Rs) Z w) (hZB : ∀ k o, Z k = some o → k < B) (hp : p = .pointer none ∨ p = .pointer (some ⟨b, 0, none⟩)) (hl : xs.length + s.length ≤ 140737488355328) (hR : restB (ρ.t 5) Rs = true) :
    Calls P (ρ.f 166) #[.pointer (some ⟨b, 0, none⟩), str s] w fun e w' => ∃ ao' cap', e = .returned (.tuple #[.int .i64 (s.length : Int), .nilIface]) ∧ Mem B [] w0 Z (.row b [.pointer (some ⟨b, 0, none⟩), .slice ao' (xs ++ s).length cap'] (ρ.t 72) :: .own tyByte (ρ.t 5) ao' cap' (xs ++ s) :: Rs) Z w' := by
  -- by hand
  have hM1 : Mem B [] w0 Z (BldR b p (ρ.t 72) (ρ.t 5) ao cap xs) Z w := Mem.part (Rs := Rs) hM
  refine (bldWS L X B b _ ⟨⟨s⟩⟩ w (bld_is hM1 hp) (by rw [Lib.byteCells_length]; exact hl) hM.base).mono fun e1 w1 ⟨he, hA, hb, hk⟩ => ?_
  have e2 : Lib.byteCells xs ++ Lib.strCells ⟨⟨s⟩⟩ = Lib.byteCells (xs ++ s) := by simp [Lib.byteCells, Lib.strCells]
  rw [e2] at hA
  obtain ⟨ao', cap', h⟩ := bld_back hM1 hZB hA hb (by rw [List.length_append]; exact hl)
  refine ⟨ao', cap', he, ?_⟩
  have hnd : (BldR b p (ρ.t 72) (ρ.t 5) ao cap xs ++ Rs).Pairwise fun r s => ∀ b, r.foot = some b → s.foot ≠ some b := hM.nd
  obtain ⟨_, hn2, hn3⟩ := List.pairwise_append.1 hnd
  have hrow : ∀ r ∈ Rs, ∃ c cs t, r = .row c cs t ∧ t ≠ ρ.t 5 ∧ c ≠ b ∧ r.holds B [] Z w1 := fun r hr => by
    have h1 := List.all_eq_true.1 hR r hr
    have h2 := hM.res r (List.mem_cons_of_mem _ (List.mem_cons_of_mem _ hr))
    cases r with
    | row c cs t =>
      have hcb : c ≠ b := fun h9 => hn3 _ List.mem_cons_self _ hr b rfl (by rw [h9]; rfl)
      have ht : t ≠ ρ.t 5 := by simpa using h1
      exact ⟨c, cs, t, rfl, ht, hcb, h2.1, hk c _ _ _ h2.2 hcb ht⟩
    | _ => simp at h1
  have hown := (h.res _ (List.mem_cons_of_mem _ List.mem_cons_self)).2.2
  obtain ⟨cells, ho, _⟩ := hown
  show Mem B [] w0 Z (BldR b _ (ρ.t 72) (ρ.t 5) ao' cap' (xs ++ s) ++ Rs) Z w1
  refine ⟨h.kept, h.base, fun r hr => ?_, List.pairwise_append.2 ⟨h.nd, hn2, fun r hr r2 hr2 k hk1 hk2 => ?_⟩, h.fz, h.ext, fun r hr => ?_⟩
  · rcases List.mem_append.1 hr with hr | hr
    · exact h.res r hr
    · obtain ⟨_, _, _, _, _, _, h5⟩ := hrow r hr
      exact h5
  · obtain ⟨c, cs, t, rfl, ht, hcb, h5⟩ := hrow r2 hr2
    have hkc : c = k := by simpa [Res.foot] using hk2
    subst hkc
    rcases List.mem_cons.1 hr with rfl | hr
    · have : b = c := by simpa [Res.foot] using hk1
      exact hcb this.symm
    · rcases List.mem_cons.1 hr with rfl | hr
      · have hg : (Value.slice ao' (xs ++ s).length cap').ownBlock = some c := by
          cases ao' with
          | none => simp [Res.foot] at hk1
          | some ad => simpa [Res.foot, Value.ownBlock] using hk1
        obtain ⟨c6, f6, h6⟩ := Lib.ownsRow_kind ho c hg
        rw [h5.2] at h6
        simp only [Option.some.injEq, Obj.cells.injEq] at h6
        exact ht h6.2.1
      · cases hr
  · rcases List.mem_append.1 hr with hr | hr
    · exact h.apart r hr
    · exact hM.apart r (List.mem_cons_of_mem _ (List.mem_cons_of_mem _ hr))
theorem Mem.bldNilR {Rs : List Res} (hM : Mem B [] w0 Z (.row b [p, .slice none 0 0] T :: Rs) Z w) (e : TypeId) : Mem B [] w0 Z (.row b [p, .slice none 0 0] T :: .own tyByte e none 0 [] :: Rs) Z w :=
  (hM.addNil tyByte e Nat.one_pos).perm (List.Perm.swap _ _ _)
theorem zB {w : World} (h : Z.on w) : ∀ k o, Z k = some o → k < w.heap.size := fun k o hk => lt_of_get (h k o hk)
end Go.Sy
namespace Go.Proofs
open Go.Shelf
def Try.lays166_ren : Go.Shelf.Ren := ⟨fun | 166 => 128 | 240 => 135 | 276 => 137 | n => n, fun | 37 => 22 | 70 => 189 | 72 => 191 | 75 => 193 | 80 => 196 | 164 => 204 | n => n, fun n => n⟩
theorem Try.lays166 : Lays.n166 Try.prog Try.lays166_ren := {
  mixed := by kernel_rfl
  f166 := Try.func128.trans (congrArg some (by kernel_rfl))
  f240 := Try.func135.trans (congrArg some (by kernel_rfl))
  f276 := Try.func137.trans (congrArg some (by kernel_rfl))
  t0 := Try.underlying0
  a0 := Try.isAgg0
  z0 := Try.sizeOf0
  v0 := Try.zeroValue0
  t3 := Try.underlying3
  a3 := Try.isAgg3
  z3 := Try.sizeOf3
  v3 := Try.zeroValue3
  t4 := Try.underlying4
  a4 := Try.isAgg4
  z4 := Try.sizeOf4
  v4 := Try.zeroValue4
  t9 := Try.underlying9
  a9 := Try.isAgg9
  z9 := Try.sizeOf9
  v9 := Try.zeroValue9
  t20 := Try.underlying20
  a20 := Try.isAgg20
  z20 := Try.sizeOf20
  v20 := Try.zeroValue20
  t37 := Try.underlying22
  a37 := Try.isAgg22
  z37 := Try.sizeOf22
  v37 := Try.zeroValue22
  t70 := Try.underlying189
  a70 := Try.isAgg189
  z70 := Try.sizeOf189
  v70 := Try.zeroValue189
  t72 := Try.underlying191
  a72 := Try.isAgg191
  z72 := Try.sizeOf191
  v72 := Try.zeroValue191
  t75 := Try.underlying193
  a75 := Try.isAgg193
  z75 := Try.sizeOf193
  v75 := Try.zeroValue193
  t164 := Try.underlying204
  a164 := Try.isAgg204
  z164 := Try.sizeOf204
  v164 := Try.zeroValue204 }

theorem Try.lays166X : Builder.Extra Try.prog Try.lays166_ren := {
  sizeBuilder := by kernel_rfl
  liesBuilder := by kernel_rfl
  t5 := by kernel_rfl
  a5 := fun w => by kernel_rfl
  z5 := fun w => by kernel_rfl
  v5 := fun w => by kernel_rfl
  infoByte := by kernel_rfl
  cellsByte := by kernel_rfl
  sizeByte := by kernel_rfl
  neB5 := by decide }

def Try.lays169_ren : Go.Shelf.Ren := ⟨fun | 169 => 129 | n => n, fun | 37 => 22 | 70 => 189 | 72 => 191 | 127 => 203 | n => n, fun n => n⟩
theorem Try.lays169 : Lays.n169 Try.prog Try.lays169_ren := {
  mixed := by kernel_rfl
  f169 := Try.func129.trans (congrArg some (by kernel_rfl))
  t0 := Try.underlying0
  a0 := Try.isAgg0
  z0 := Try.sizeOf0
  v0 := Try.zeroValue0
  t3 := Try.underlying3
  a3 := Try.isAgg3
  z3 := Try.sizeOf3
  v3 := Try.zeroValue3
  t9 := Try.underlying9
  a9 := Try.isAgg9
  z9 := Try.sizeOf9
  v9 := Try.zeroValue9
  t37 := Try.underlying22
  a37 := Try.isAgg22
  z37 := Try.sizeOf22
  v37 := Try.zeroValue22
  t70 := Try.underlying189
  a70 := Try.isAgg189
  z70 := Try.sizeOf189
  v70 := Try.zeroValue189
  t72 := Try.underlying191
  a72 := Try.isAgg191
  z72 := Try.sizeOf191
  v72 := Try.zeroValue191
  t127 := Try.underlying203
  a127 := Try.isAgg203
  z127 := Try.sizeOf203
  v127 := Try.zeroValue203 }

theorem Try.lays169X : Builder.Extra Try.prog Try.lays169_ren := {
  sizeBuilder := by kernel_rfl
  liesBuilder := by kernel_rfl
  t5 := by kernel_rfl
  a5 := fun w => by kernel_rfl
  z5 := fun w => by kernel_rfl
  v5 := fun w => by kernel_rfl
  infoByte := by kernel_rfl
  cellsByte := by kernel_rfl
  sizeByte := by kernel_rfl
  neB5 := by decide }

end Go.Proofs
set_option linter.unusedVariables false
set_option linter.unusedSimpArgs false
set_option maxRecDepth 100000
set_option maxHeartbeats 0
namespace Go.Proofs.Ytginlmgkimfjmaa
open Go.Sy Go.RowKit
theorem mixed : Try.prog.follows .mixedOrders = true := by kernel_rfl
theorem rdFrame : Rd Try.prog 58 tyFrame okFrame := by
  refine ⟨fun enc w fuel cs x h hw => ?_⟩
  have hu : Try.prog.underlying 58 = some (.struct _) := Try.underlying58
  have hl := rd_len hu h (m := 6) (by kernel_rfl)
  obtain ⟨j, o, p⟩ := rd_field hu h hw 0 rfl (rd_int (P := Try.prog) (t := 3) (k := .i64) (by kernel_rfl)) (m := 1) (by kernel_rfl) (off := 0) rfl
  have q : (cs.drop 0).take 1 = [i6 j] := o
  obtain ⟨i, r, s⟩ := rd_field hu h hw 1 rfl (rd_bool (P := Try.prog) (t := 4) (by kernel_rfl)) (m := 1) (by kernel_rfl) (off := 1) rfl
  have u : (cs.drop 1).take 1 = [.bool i] := r
  obtain ⟨g, v, y⟩ := rd_field hu h hw 2 rfl (rd_bool (P := Try.prog) (t := 4) (by kernel_rfl)) (m := 1) (by kernel_rfl) (off := 2) rfl
  have A : (cs.drop 2).take 1 = [.bool g] := v
  obtain ⟨f, B, C⟩ := rd_field hu h hw 3 rfl (rd_bool (P := Try.prog) (t := 4) (by kernel_rfl)) (m := 1) (by kernel_rfl) (off := 3) rfl
  have D : (cs.drop 3).take 1 = [.bool f] := B
  obtain ⟨d, E, F⟩ := rd_field hu h hw 4 rfl (rd_int (P := Try.prog) (t := 3) (k := .i64) (by kernel_rfl)) (m := 1) (by kernel_rfl) (off := 4) rfl
  have G : (cs.drop 4).take 1 = [i6 d] := E
  obtain ⟨a, l, H⟩ := rd_field hu h hw 5 rfl (rd_sliceR (P := Try.prog) (t := 22) (e := 5) (bytes := 1) (by kernel_rfl) (rd_int (P := Try.prog) (t := 5) (k := .u8) (by kernel_rfl))) (m := 1) (by kernel_rfl) (off := 5) rfl
  obtain ⟨b, c, l, I⟩ := l
  have J : (cs.drop 5).take 1 = [.slice b a.length c] := l
  have z : cs.drop 6 = [] := List.drop_eq_nil_of_le (by omega)
  have K : cs.drop 5 = [.slice b a.length c] := by rw [show cs.drop 5 = (cs.drop 5).take 1 ++ cs.drop 6 from cut_at cs 5 1, J, z]; rfl
  have L : cs.drop 4 = [i6 d, .slice b a.length c] := by rw [show cs.drop 4 = (cs.drop 4).take 1 ++ cs.drop 5 from cut_at cs 4 1, G, K]; rfl
  have M : cs.drop 3 = [.bool f, i6 d, .slice b a.length c] := by rw [show cs.drop 3 = (cs.drop 3).take 1 ++ cs.drop 4 from cut_at cs 3 1, D, L]; rfl
  have N : cs.drop 2 = [.bool g, .bool f, i6 d, .slice b a.length c] := by rw [show cs.drop 2 = (cs.drop 2).take 1 ++ cs.drop 3 from cut_at cs 2 1, A, M]; rfl
  have O : cs.drop 1 = [.bool i, .bool g, .bool f, i6 d, .slice b a.length c] := by rw [show cs.drop 1 = (cs.drop 1).take 1 ++ cs.drop 2 from cut_at cs 1 1, u, N]; rfl
  have n : cs.drop 0 = [i6 j, .bool i, .bool g, .bool f, i6 d, .slice b a.length c] := by rw [show cs.drop 0 = (cs.drop 0).take 1 ++ cs.drop 1 from cut_at cs 0 1, q, O]; rfl
  refine ⟨⟨j, i, g, f, d, a⟩, ?_, p, s, y, C, F, H⟩
  rw [List.drop_zero] at n
  exact ⟨b, c, n, I⟩

theorem rdTask : Rd Try.prog 34 tyTask okTask := by
  refine ⟨fun enc w fuel cs x h hw => ?_⟩
  have hu : Try.prog.underlying 34 = some (.struct _) := Try.underlying34
  have hl := rd_len hu h (m := 5) (by kernel_rfl)
  obtain ⟨e, g, i⟩ := rd_field hu h hw 0 rfl (rd_int (P := Try.prog) (t := 3) (k := .i64) (by kernel_rfl)) (m := 1) (by kernel_rfl) (off := 0) rfl
  have j : (cs.drop 0).take 1 = [i6 e] := g
  obtain ⟨d, l, n⟩ := rd_field hu h hw 1 rfl (rd_int (P := Try.prog) (t := 3) (k := .i64) (by kernel_rfl)) (m := 1) (by kernel_rfl) (off := 1) rfl
  have o : (cs.drop 1).take 1 = [i6 d] := l
  obtain ⟨c, p, q⟩ := rd_field hu h hw 2 rfl (rd_int (P := Try.prog) (t := 3) (k := .i64) (by kernel_rfl)) (m := 1) (by kernel_rfl) (off := 2) rfl
  have r : (cs.drop 2).take 1 = [i6 c] := p
  obtain ⟨b, s, u⟩ := rd_field hu h hw 3 rfl (rd_int (P := Try.prog) (t := 3) (k := .i64) (by kernel_rfl)) (m := 1) (by kernel_rfl) (off := 3) rfl
  have v : (cs.drop 3).take 1 = [i6 b] := s
  obtain ⟨a, y, A⟩ := rd_field hu h hw 4 rfl (rd_int (P := Try.prog) (t := 3) (k := .i64) (by kernel_rfl)) (m := 1) (by kernel_rfl) (off := 4) rfl
  have B : (cs.drop 4).take 1 = [i6 a] := y
  have z : cs.drop 5 = [] := List.drop_eq_nil_of_le (by omega)
  have C : cs.drop 4 = [i6 a] := by rw [show cs.drop 4 = (cs.drop 4).take 1 ++ cs.drop 5 from cut_at cs 4 1, B, z]; rfl
  have D : cs.drop 3 = [i6 b, i6 a] := by rw [show cs.drop 3 = (cs.drop 3).take 1 ++ cs.drop 4 from cut_at cs 3 1, v, C]; rfl
  have E : cs.drop 2 = [i6 c, i6 b, i6 a] := by rw [show cs.drop 2 = (cs.drop 2).take 1 ++ cs.drop 3 from cut_at cs 2 1, r, D]; rfl
  have F : cs.drop 1 = [i6 d, i6 c, i6 b, i6 a] := by rw [show cs.drop 1 = (cs.drop 1).take 1 ++ cs.drop 2 from cut_at cs 1 1, o, E]; rfl
  have f : cs.drop 0 = [i6 e, i6 d, i6 c, i6 b, i6 a] := by rw [show cs.drop 0 = (cs.drop 0).take 1 ++ cs.drop 1 from cut_at cs 0 1, j, F]; rfl
  refine ⟨⟨e, d, c, b, a⟩, ?_, i, n, q, u, A⟩
  rw [List.drop_zero] at f
  exact f

theorem rdStop : Rd Try.prog 40 tyStop okStop := by
  refine ⟨fun enc w fuel cs x h hw => ?_⟩
  have hu : Try.prog.underlying 40 = some (.struct _) := Try.underlying40
  have hl := rd_len hu h (m := 2) (by kernel_rfl)
  obtain ⟨b, d, e⟩ := rd_field hu h hw 0 rfl (rd_int (P := Try.prog) (t := 3) (k := .i64) (by kernel_rfl)) (m := 1) (by kernel_rfl) (off := 0) rfl
  have f : (cs.drop 0).take 1 = [i6 b] := d
  obtain ⟨a, g, i⟩ := rd_field hu h hw 1 rfl (rd_bool (P := Try.prog) (t := 4) (by kernel_rfl)) (m := 1) (by kernel_rfl) (off := 1) rfl
  have j : (cs.drop 1).take 1 = [.bool a] := g
  have z : cs.drop 2 = [] := List.drop_eq_nil_of_le (by omega)
  have l : cs.drop 1 = [.bool a] := by rw [show cs.drop 1 = (cs.drop 1).take 1 ++ cs.drop 2 from cut_at cs 1 1, j, z]; rfl
  have c : cs.drop 0 = [i6 b, .bool a] := by rw [show cs.drop 0 = (cs.drop 0).take 1 ++ cs.drop 1 from cut_at cs 0 1, f, l]; rfl
  refine ⟨⟨b, a⟩, ?_, e, i⟩
  rw [List.drop_zero] at c
  exact c

theorem rdKind : Rd Try.prog 176 tyKind okKind := by
  refine ⟨fun enc w fuel cs x h hw => ?_⟩
  have hu : Try.prog.underlying 176 = some (.struct _) := Try.underlying176
  have hl := rd_len hu h (m := 4) (by kernel_rfl)
  obtain ⟨d, f, g⟩ := rd_field hu h hw 0 rfl (rd_int (P := Try.prog) (t := 3) (k := .i64) (by kernel_rfl)) (m := 1) (by kernel_rfl) (off := 0) rfl
  have i : (cs.drop 0).take 1 = [i6 d] := f
  obtain ⟨c, j, l⟩ := rd_field hu h hw 1 rfl (rd_int (P := Try.prog) (t := 169) (k := .u64) (by kernel_rfl)) (m := 1) (by kernel_rfl) (off := 1) rfl
  have n : (cs.drop 1).take 1 = [y6 c] := j
  obtain ⟨b, o, p⟩ := rd_field hu h hw 2 rfl (rd_int (P := Try.prog) (t := 169) (k := .u64) (by kernel_rfl)) (m := 1) (by kernel_rfl) (off := 2) rfl
  have q : (cs.drop 2).take 1 = [y6 b] := o
  obtain ⟨a, r, s⟩ := rd_field hu h hw 3 rfl (rd_int (P := Try.prog) (t := 169) (k := .u64) (by kernel_rfl)) (m := 1) (by kernel_rfl) (off := 3) rfl
  have u : (cs.drop 3).take 1 = [y6 a] := r
  have z : cs.drop 4 = [] := List.drop_eq_nil_of_le (by omega)
  have v : cs.drop 3 = [y6 a] := by rw [show cs.drop 3 = (cs.drop 3).take 1 ++ cs.drop 4 from cut_at cs 3 1, u, z]; rfl
  have y : cs.drop 2 = [y6 b, y6 a] := by rw [show cs.drop 2 = (cs.drop 2).take 1 ++ cs.drop 3 from cut_at cs 2 1, q, v]; rfl
  have A : cs.drop 1 = [y6 c, y6 b, y6 a] := by rw [show cs.drop 1 = (cs.drop 1).take 1 ++ cs.drop 2 from cut_at cs 1 1, n, y]; rfl
  have e : cs.drop 0 = [i6 d, y6 c, y6 b, y6 a] := by rw [show cs.drop 0 = (cs.drop 0).take 1 ++ cs.drop 1 from cut_at cs 0 1, i, A]; rfl
  refine ⟨⟨d, c, b, a⟩, ?_, g, l, p, s⟩
  rw [List.drop_zero] at e
  exact e

theorem rdSlot : Rd Try.prog 48 tySlot okSlot := by
  refine ⟨fun enc w fuel cs x h hw => ?_⟩
  have hu : Try.prog.underlying 48 = some (.struct _) := Try.underlying48
  have hl := rd_len hu h (m := 4) (by kernel_rfl)
  obtain ⟨d, f, g⟩ := rd_field hu h hw 0 rfl (rd_int (P := Try.prog) (t := 3) (k := .i64) (by kernel_rfl)) (m := 1) (by kernel_rfl) (off := 0) rfl
  have i : (cs.drop 0).take 1 = [i6 d] := f
  obtain ⟨c, j, l⟩ := rd_field hu h hw 1 rfl (rd_int (P := Try.prog) (t := 3) (k := .i64) (by kernel_rfl)) (m := 1) (by kernel_rfl) (off := 1) rfl
  have n : (cs.drop 1).take 1 = [i6 c] := j
  obtain ⟨b, o, p⟩ := rd_field hu h hw 2 rfl (rd_int (P := Try.prog) (t := 3) (k := .i64) (by kernel_rfl)) (m := 1) (by kernel_rfl) (off := 2) rfl
  have q : (cs.drop 2).take 1 = [i6 b] := o
  obtain ⟨a, r, s⟩ := rd_field hu h hw 3 rfl (rd_int (P := Try.prog) (t := 3) (k := .i64) (by kernel_rfl)) (m := 1) (by kernel_rfl) (off := 3) rfl
  have u : (cs.drop 3).take 1 = [i6 a] := r
  have z : cs.drop 4 = [] := List.drop_eq_nil_of_le (by omega)
  have v : cs.drop 3 = [i6 a] := by rw [show cs.drop 3 = (cs.drop 3).take 1 ++ cs.drop 4 from cut_at cs 3 1, u, z]; rfl
  have y : cs.drop 2 = [i6 b, i6 a] := by rw [show cs.drop 2 = (cs.drop 2).take 1 ++ cs.drop 3 from cut_at cs 2 1, q, v]; rfl
  have A : cs.drop 1 = [i6 c, i6 b, i6 a] := by rw [show cs.drop 1 = (cs.drop 1).take 1 ++ cs.drop 2 from cut_at cs 1 1, n, y]; rfl
  have e : cs.drop 0 = [i6 d, i6 c, i6 b, i6 a] := by rw [show cs.drop 0 = (cs.drop 0).take 1 ++ cs.drop 1 from cut_at cs 0 1, i, A]; rfl
  refine ⟨⟨d, c, b, a⟩, ?_, g, l, p, s⟩
  rw [List.drop_zero] at e
  exact e

theorem bwrite_walk (u0 : Int) (u1 : Int)  (Z : Fz) (w : World)  (hZ : Z.on w) {K : (List UInt8) → Prop} (hp : bwrite_vc u0 u1 K) : Calls Try.prog 115 #[y6 u0, i6 u1] w fun e w' => ∃ r : (List UInt8), e = .returned (str r) ∧ K r ∧ Below w.heap.size w w' := by
 refine enter0 Try.func115 rfl rfl (by kernel_rfl) ?_; intro a0 q; have l := Mem.start w Z hZ
 refine sqB q l [] [] [] ?_; intro a2 v
 refine sqH ?_; intro W x
 refine s1 v 7 (i6 u1) ?_; intro a5 y
 obtain ⟨az, X⟩ := hp
 refine mks y l (T := t8) u1 u1 (k := .i64) (k' := .i64) (e := 5) (bytes := 1) (zs := [y8 0]) (z := 0) (by simp only [lim]; omega) (nog rfl _) rfl (by kernel_rfl) rfl (by kernel_rfl) (by kernel_rfl) (by kernel_rfl) (by kernel_rfl) rfl ?_; intro b aA Y A B
 have m : Mem w.heap.size [] w Z [.own t8 5 (sm b) u1.toNat (List.replicate u1.toNat (0 : Int))] Z Y := B
 refine s1 A 5 (.slice (sm b) (List.replicate u1.toNat (0 : Int)).length u1.toNat) ?_; intro aB C
 apply x
 refine s_ (sqB C m [] [] [(9, i6 u1), (10, i6 0)] ?_); intro D E
 apply b_
 have F : Fr 28 [] [⟨0, [], y6 u0⟩, ⟨1, [], i6 u1⟩, ⟨5, [], .slice (sm b) (List.replicate u1.toNat (0 : Int)).length u1.toNat⟩, ⟨9, [], i6 u1⟩, ⟨10, [], i6 0⟩] D := E.reg
 obtain ⟨aa, ab, ac, ad⟩ := X
 refine lp (ι := Int × Int × (List Int)) (fun s => [⟨0, [], y6 s.1⟩, ⟨1, [], i6 u1⟩, ⟨5, [], .slice (sm b) s.2.2.length u1.toNat⟩, ⟨9, [], i6 u1⟩, ⟨10, [], i6 s.2.1⟩]) (fun s => [.own t8 5 (sm b) u1.toNat s.2.2]) (fun s => Z) (fun s => aa s.1 s.2.1 s.2.2) (fun s => ab s.1 s.2.1 s.2.2) ⟨u0, 0, (List.replicate u1.toNat (0 : Int))⟩ ac (by exact F.region (by kernel_rfl) (by kernel_rfl)) (by exact m) ?_
 rintro ⟨d, a, c⟩ ae af ag H I
 have i := ad d a c ae
 refine sqB H I [] [] [(11, .bool (decide (a < u1)))] ?_; intro aC h
 apply s_
 refine cd h (t := decide (a < u1)) (by kernel_rfl) (fun n => ?_) (fun n => ?_)
 · -- yes
  have ah := i.1 n
  refine k_ (s_ (b_ (sqB h I [] [] [(6, i6 a)] ?_))); intro aD L
  refine sqH ?_; intro ai M
  refine bt L I 9 [] [] [(13, .slice (sm b) c.length u1.toNat), (17, i6 (w64 ((w64 (u1 - 1)) - a))), (21, y8 (w8 (48 + (w8 (bAnd .u64 d 1)))))] ?_; intro aE N
  obtain ⟨aj, O⟩ := ah
  refine ixo N I 0 (T := t8) (xs := c) (w64 ((w64 (u1 - 1)) - a)) aj (k := .i64) (e := 5) (bytes := 1) (nog rfl _) rfl (by kernel_rfl) rfl (by kernel_rfl) (by kernel_rfl) rfl (by kernel_rfl) ?_; intro ak al am j
  obtain rfl : b = ak := by simpa using am
  refine so j I 0 (T := t8) (xs := c) (w64 ((w64 (u1 - 1)) - a)).toNat (w8 (48 + (w8 (bAnd .u64 d 1)))) (u := y8 (w8 (48 + (w8 (bAnd .u64 d 1))))) (nog rfl _) rfl rfl (by kernel_rfl) rfl (by kernel_rfl) rfl (by kernel_rfl) (by first | omega | (simp only [List.length_set] at *; omega)) rfl ?_; intro an P
  have Q : Fr 28 [] [⟨0, [], y6 d⟩, ⟨1, [], i6 u1⟩, ⟨5, [], .slice (sm b) (c.set (w64 ((w64 (u1 - 1)) - a)).toNat (w8 (48 + (w8 (bAnd .u64 d 1))))).length u1.toNat⟩, ⟨6, [], i6 a⟩, ⟨9, [], i6 u1⟩, ⟨10, [], i6 a⟩, ⟨11, [], .bool (decide (a < u1))⟩, ⟨13, [], .slice (sm b) (c.set (w64 ((w64 (u1 - 1)) - a)).toNat (w8 (48 + (w8 (bAnd .u64 d 1))))).length u1.toNat⟩, ⟨17, [], i6 (w64 ((w64 (u1 - 1)) - a))⟩, ⟨21, [], y8 (w8 (48 + (w8 (bAnd .u64 d 1))))⟩, ⟨22, [], .pointer (some ⟨b, (w64 ((w64 (u1 - 1)) - a)).toNat * 1, none⟩)⟩] al := by (try simp only [List.length_set] at j); (try simp only [List.length_set]); exact j.region (by kernel_rfl) (by kernel_rfl)
  have o : Mem w.heap.size [] w Z [.own t8 5 (sm b) u1.toNat (c.set (w64 ((w64 (u1 - 1)) - a)).toNat (w8 (48 + (w8 (bAnd .u64 d 1)))))] Z an := P
  apply M
  refine rgB Q o [] [] [(0, y6 (bShr .u64 d 1))] ?_; intro ap R
  refine j_ (t_ ?_)
  have S : Fr 28 [] [⟨0, [], y6 (bShr .u64 d 1)⟩, ⟨1, [], i6 u1⟩, ⟨5, [], .slice (sm b) (c.set (w64 ((w64 (u1 - 1)) - a)).toNat (w8 (48 + (w8 (bAnd .u64 d 1))))).length u1.toNat⟩, ⟨9, [], i6 u1⟩, ⟨10, [], i6 a⟩] ap := R.reg
  refine rgB S o [] [] [(10, i6 (w64 (a + 1)))] ?_; intro aF aq
  exact d_ ⟨⟨bShr .u64 d 1, w64 (a + 1), c.set (w64 ((w64 (u1 - 1)) - a)).toNat (w8 (48 + (w8 (bAnd .u64 d 1))))⟩, O.1, O.2, (aq.region (by kernel_rfl) (by kernel_rfl)).anyβ _ (by kernel_rfl), o.kp⟩
 · -- no
  have ar := i.2 n
  refine x_ (y_ (y_ (z_ (t_ (sqH ?_))))); intro au U
  refine s1 h 26 (.slice (sm b) c.length u1.toNat) ?_; intro aG p
  refine u_ p (str (bstr c)) ((by obtain ⟨Z9, aH, av, aw⟩ := I.lend 0 rfl; exact bstr_op p (g := []) (e := 5) (ao := (sm b)) (cap := u1.toNat) (xs := c) rfl (by kernel_rfl) (by kernel_rfl) (by kernel_rfl) (by kernel_rfl)  aw av rfl)) ?_; intro aI V
  refine s1 V 4 (str (bstr c)) ?_; intro aJ ax
  apply U
  exact r_ (ra1 ax (str (bstr c)) ⟨bstr c, rfl, ar, I.below⟩)

end Go.Proofs.Ytginlmgkimfjmaa
set_option linter.unusedVariables false
set_option linter.unusedSimpArgs false
set_option linter.defProp false
set_option maxRecDepth 100000
set_option maxHeartbeats 0
namespace Go.Proofs.Ytginlmgkimfjmaa
open Go.Sy Go.RowKit
def bwrite_fun (u0 : Int) (u1 : Int) (hpre : 0 ≤ u1 ∧ u1 ≤ 64 ∧ 0 ≤ u0 ∧ u0 < 2 ^ 62)  (Z : Fz) (w : World)  (hZ : Z.on w) := f_ (bwrite_walk u0 u1  Z w  hZ (bwrite_ok u0 u1 hpre))
theorem bof_walk (u0 : List Int) (ao1 : Option Addr) (cap2 : Nat) (Z : Fz) (w : World) (hs3 : SlR t8 Z ao1 cap2 u0) (hZ : Z.on w) {K : ((List UInt8) × Int) → Prop} (hp : bof_vc u0 K) : Calls Try.prog 114 #[.slice ao1 u0.length cap2] w fun e w' => ∃ r : (List UInt8) × Int, e = .returned (.tuple #[str r.1, i6 r.2]) ∧ K r ∧ Below w.heap.size w w' := by
 refine enter0 Try.func114 rfl rfl (by kernel_rfl) ?_; intro a0 u; have g := Mem.start w Z hZ
 have hzB := Go.Sy.zB hZ
 have j := hp (hs3.small)
 refine sqB u g [] [] [] ?_; intro a8 v
 refine s_ (sqB v g [] [] [(9, .bool (decide ((u0.length : Int) > 125)))] ?_); intro aM h
 refine cd h (t := decide ((u0.length : Int) > 125)) (by kernel_rfl) (fun m => ?_) (fun m => ?_)
 · -- yes
  have ae := j.1 m
  refine sqB h g [] [] [(2, str []), (3, i6 2)] ?_; intro aN af
  exact r_ (h_ (ra2 af (.tuple #[str [], i6 2]) ⟨([], 2), rfl, ae, g.below⟩))
 · -- no
  have ag := j.2 m
  refine k_ (sqH ?_); intro ah x
  refine nw h g pb [.pointer none, .slice none 0 0] 191 ?_; intro a aO ai y n
  apply x
  refine s_ (sqB y n [] [] [(10, .slice ao1 u0.length cap2), (11, i6 (u0.length : Int)), (12, i6 0)] ?_); intro z A
  apply b_
  have B : Fr 22 [] [⟨4, [], pt a 0⟩, ⟨10, [], .slice ao1 u0.length cap2⟩, ⟨11, [], i6 (u0.length : Int)⟩, ⟨12, [], i6 0⟩] z := A.reg
  have C : Mem w.heap.size [] w Z [.row a [.pointer none, .slice none ([] : List UInt8).length 0] 191, .own tyByte 5 none 0 ([] : List UInt8)] Z ai := n.bldNil 5
  have D : Fr 22 [] [⟨4, [], pt a 0⟩, ⟨10, [], .slice ao1 u0.length cap2⟩, ⟨11, [], i6 (u0.length : Int)⟩, ⟨12, [], i6 0⟩] z := B.reg
  obtain ⟨aj, ak, al, am⟩ := ag
  refine lp (ι := Int × (List UInt8) × Value × (Option Addr) × Nat) (fun s => [⟨4, [], pt a 0⟩, ⟨10, [], .slice ao1 u0.length cap2⟩, ⟨11, [], i6 (u0.length : Int)⟩, ⟨12, [], i6 s.1⟩]) (fun s => [.row a [s.2.2.1, .slice s.2.2.2.1 s.2.1.length s.2.2.2.2] 191, .own tyByte 5 s.2.2.2.1 s.2.2.2.2 s.2.1]) (fun s => Z) (fun s => aj s.1 s.2.1 ∧ (s.2.2.1 = .pointer none ∨ s.2.2.1 = pt a 0)) (fun s => ak s.1 s.2.1) ⟨0, ([] : List UInt8), (.pointer none), none, 0⟩ ⟨al, (.inl rfl)⟩ (by exact D.region (by kernel_rfl) (by kernel_rfl)) (by exact C) ?_
  rintro ⟨f, c, an, E, F⟩ ⟨ao, G⟩ ap aq H I
  have l := am f c ao
  refine sqB H I [] [] [(13, .bool (decide (f < (u0.length : Int))))] ?_; intro aP i
  apply s_
  refine cd i (t := decide (f < (u0.length : Int))) (by kernel_rfl) (fun o => ?_) (fun o => ?_)
  · -- yes
   have ar := l.1 o
   refine k_ (s_ (b_ (sqH ?_))); intro au L
   obtain ⟨av, M⟩ := ar
   refine ix_ i hs3 f av .i64 5 1 ?_; intro aQ aR aw b aS ax ay az N
   have aA := M b ax
   obtain rfl : aw = ([y8 b] : List Value) := az
   refine z1 N I 15 ay 0 (y8 b) rfl ?_; intro aT O
   refine s1 O 6 (y8 b) ?_; intro aU P
   apply L
   refine rgH ?_; intro aB Q
   refine bt P I 2 [] [] [(17, y6 (wu64 b))] ?_; intro aV R
   obtain ⟨aC, aD⟩ := aA
   refine fc R I (bwrite_fun (wu64 b) 8 aC _ _ I.fz) ?_; intro aW aX S U
   obtain ⟨aE, V⟩ := aD
   refine ck S 128 #[pt a 0, str (bwriteS (wu64 b) 8)] ?_
   refine (Go.Sy.bld_write Try.lays166 Try.lays166X U hzB G aE).mono ?_; rintro _ aF ⟨p, q, rfl, hm⟩; refine ⟨_, rfl, ?_⟩; intro aY W; have X := hm
   have Y : Mem w.heap.size [] w Z [.row a [pt a 0, .slice p (c ++ (bwriteS (wu64 b) 8)).length q] 191, .own tyByte 5 p q (c ++ (bwriteS (wu64 b) 8))] Z aF := X
   apply Q
   refine j_ (t_ (rgB W Y [] [] [(12, i6 (w64 (f + 1)))] ?_)); intro aZ aG
   exact d_ ⟨⟨w64 (f + 1), c ++ (bwriteS (wu64 b) 8), (pt a 0), p, q⟩, ⟨V.1, (.inr rfl)⟩, V.2, (aG.region (by kernel_rfl) (by kernel_rfl)).anyβ _ (by kernel_rfl), Y.kp⟩
  · -- no
   have aH := l.2 o
   refine x_ (y_ (y_ (z_ (t_ (sqH ?_))))); intro aI aa
   refine ck i 129 #[pt a 0] ?_
   refine (Go.Sy.bld_string Try.lays169 Try.lays169X I hzB G).mono ?_; rintro _ aJ ⟨rfl, hm⟩; refine ⟨_, rfl, ?_⟩; intro a1 ab; have ac := hm
   have ad : Mem w.heap.size [] w Z [] Z aJ := ac
   refine bt ab ad 2 [] [] [(2, str c), (3, i6 0)] ?_; intro a2 aK
   apply aa
   exact r_ (ra2 aK (.tuple #[str c, i6 0]) ⟨(c, 0), rfl, aH, ad.below⟩)

end Go.Proofs.Ytginlmgkimfjmaa
set_option linter.unusedVariables false
set_option linter.unusedSimpArgs false
set_option linter.defProp false
set_option maxRecDepth 100000
set_option maxHeartbeats 0
namespace Go.Proofs.Ytginlmgkimfjmaa
open Go.Sy Go.RowKit
abbrev e58Dc (X : Frame) (A0 : Option Addr) (C0 : Nat) : List Value := [i6 X.ID, .bool X.Long, .bool X.Fast, .bool X.Remote, i6 X.Size, .slice A0 X.Data.length C0]
abbrev e34Dc (X : Task) : List Value := [i6 X.ID, i6 X.Bytes, i6 X.Every, i6 X.Late, i6 X.Jitter]
def bof_fun (u0 : List Int) (hpre : ∀ x ∈ u0, 0 ≤ x ∧ x ≤ 255) (ao1 : Option Addr) (cap2 : Nat) (Z : Fz) (w : World) (hs3 : SlR t8 Z ao1 cap2 u0) (hZ : Z.on w) := f_ (bof_walk u0 ao1 cap2 Z w hs3 hZ (bof_ok u0 hpre))
theorem fsizes_walk   (Z : Fz) (w : World)  (hZ : Z.on w) {K : (List Int) → Prop} (hp : fsizes_vc  K) : Calls Try.prog 91 #[] w fun e w' => ∃ (r : (List Int)) (ao1001 : Option Addr) (cap1002 : Nat) (Z' : Fz), e = .returned (.slice ao1001 r.length cap1002) ∧ K r ∧ Mem w.heap.size [] w Z [.own t6 3 ao1001 cap1002 r] Z' w' := by
 refine enter0 Try.func91 rfl rfl (by kernel_rfl) ?_; intro n d; have c := Mem.start w Z hZ
 refine sqB d c [] [] [] ?_; intro p f
 refine sqH ?_; intro j g
 refine nw f c (fun b => .slice (sm b) 16 16) [i6 0, i6 1, i6 2, i6 3, i6 4, i6 5, i6 6, i6 7, i6 8, i6 12, i6 16, i6 20, i6 24, i6 32, i6 48, i6 64] 3 ?_; intro a q k h i
 refine s1 h 0 (.slice (sm a) 16 16) ?_; intro s l
 apply g
 apply r_
 have m : Mem w.heap.size [] w Z [.own t6 3 (sm a) 16 ([0, 1, 2, 3, 4, 5, 6, 7, 8, 12, 16, 20, 24, 32, 48, 64] : List Int)] Z k := i.rowOwn (T := t6) (xs := ([0, 1, 2, 3, 4, 5, 6, 7, 8, 12, 16, 20, 24, 32, 48, 64] : List Int)) 0 rfl (by decide) (by show 16 ≤ lim; decide) ((RepAll.one (T := t6) (x := 0) rfl).append ((RepAll.one (T := t6) (x := 1) rfl).append ((RepAll.one (T := t6) (x := 2) rfl).append ((RepAll.one (T := t6) (x := 3) rfl).append ((RepAll.one (T := t6) (x := 4) rfl).append ((RepAll.one (T := t6) (x := 5) rfl).append ((RepAll.one (T := t6) (x := 6) rfl).append ((RepAll.one (T := t6) (x := 7) rfl).append ((RepAll.one (T := t6) (x := 8) rfl).append ((RepAll.one (T := t6) (x := 12) rfl).append ((RepAll.one (T := t6) (x := 16) rfl).append ((RepAll.one (T := t6) (x := 20) rfl).append ((RepAll.one (T := t6) (x := 24) rfl).append ((RepAll.one (T := t6) (x := 32) rfl).append ((RepAll.one (T := t6) (x := 48) rfl).append (RepAll.one (T := t6) (x := 64) rfl))))))))))))))))
 exact ra1 l (.slice (sm a) ([0, 1, 2, 3, 4, 5, 6, 7, 8, 12, 16, 20, 24, 32, 48, 64] : List Int).length 16) ⟨([0, 1, 2, 3, 4, 5, 6, 7, 8, 12, 16, 20, 24, 32, 48, 64] : List Int), (sm a), 16, Z, rfl, hp, m.kp⟩
def fsizes_fun   (Z : Fz) (w : World)  (hZ : Z.on w) := fc_ (fsizes_walk   Z w  hZ (fsizes_ok ))
theorem fbit_walk (u0 : Bool)  (Z : Fz) (w : World)  (hZ : Z.on w) {K : (List UInt8) → Prop} (hp : fbit_vc u0 K) : Calls Try.prog 127 #[.bool u0] w fun e w' => ∃ r : (List UInt8), e = .returned (str r) ∧ K r ∧ Below w.heap.size w w' := by
 refine enter0 Try.func127 rfl rfl (by kernel_rfl) ?_; intro k d; have a := Mem.start w Z hZ
 refine sqB d a [] [] [] ?_; intro m f
 refine s_ (sqB f a [] [] [(3, .bool u0)] ?_); intro n b
 refine cd b (t := u0) (by kernel_rfl) (fun c => ?_) (fun c => ?_)
 · -- yes
  have g := hp.1 c
  refine sqB b a [] [] [(2, str ([49] : List UInt8))] ?_; intro o h
  exact r_ (h_ (ra1 h (str ([49] : List UInt8)) ⟨([49] : List UInt8), rfl, g, a.below⟩))
 · -- no
  have i := hp.2 c
  refine k_ (sqB b a [] [] [(2, str ([48] : List UInt8))] ?_); intro p j
  exact r_ (ra1 j (str ([48] : List UInt8)) ⟨([48] : List UInt8), rfl, i, a.below⟩)
def fbit_fun (u0 : Bool)  (Z : Fz) (w : World)  (hZ : Z.on w) := f_ (fbit_walk u0  Z w  hZ (fbit_ok u0))
theorem smost_walk (u0 : Int)  (Z : Fz) (w : World)  (hZ : Z.on w) {K : (Int × Int) → Prop} (hp : smost_vc u0 K) : Calls Try.prog 88 #[i6 u0] w fun e w' => ∃ r : Int × Int, e = .returned (.tuple #[i6 r.1, i6 r.2]) ∧ K r ∧ Below w.heap.size w w' := by
 refine enter0 Try.func88 rfl rfl (by kernel_rfl) ?_; intro p h; have a := Mem.start w Z hZ
 refine sqB h a [] [] [] ?_; intro s i
 refine s_ (sqB i a [] [] [(9, .bool ((decide (u0 < 0)) || (decide (u0 > 1000))))] ?_); intro u b
 refine cd b (t := (decide (u0 < 0)) || (decide (u0 > 1000))) (by kernel_rfl) (fun f => ?_) (fun f => ?_)
 · -- yes
  have j := hp.1 f
  refine sqB b a [] [] [(2, i6 0), (3, i6 3)] ?_; intro v k
  exact r_ (h_ (ra2 k (.tuple #[i6 0, i6 3]) ⟨(0, 3), rfl, j, a.below⟩))
 · -- no
  have d := hp.2 f
  refine k_ (s_ (sqB b a [] [] [(11, .bool (u0 == 0))] ?_)); intro x c
  refine cd c (t := u0 == 0) (by kernel_rfl) (fun g => ?_) (fun g => ?_)
  · -- yes
   have l := d.1 g
   refine sqB c a [] [] [(2, i6 0), (3, i6 0)] ?_; intro y m
   exact r_ (h_ (ra2 m (.tuple #[i6 0, i6 0]) ⟨(0, 0), rfl, l, a.below⟩))
  · -- no
   have n := d.2 g
   refine k_ (sqB c a [] [] [(2, i6 (w64 (u0 + (w64 ((w64 (u0 - 1)).tdiv 4))))), (3, i6 0)] ?_); intro z o
   exact r_ (ra2 o (.tuple #[i6 (w64 (u0 + (w64 ((w64 (u0 - 1)).tdiv 4)))), i6 0]) ⟨(w64 (u0 + (w64 ((w64 (u0 - 1)).tdiv 4))), 0), rfl, n, a.below⟩)
def smost_fun (u0 : Int)  (Z : Fz) (w : World)  (hZ : Z.on w) := f_ (smost_walk u0  Z w  hZ (smost_ok u0))
theorem ckinds_walk   (Z : Fz) (w : World)  (hZ : Z.on w) {K : (Kind × Kind × Kind × Kind × Kind) → Prop} (hp : ckinds_vc  K) : Calls Try.prog 116 #[] w fun e w' => ∃ r : (Kind × Kind × Kind × Kind × Kind), e = .returned (.agg #[i6 r.1.Size, y6 r.1.Poly, y6 r.1.From, y6 r.1.End, i6 r.2.1.Size, y6 r.2.1.Poly, y6 r.2.1.From, y6 r.2.1.End, i6 r.2.2.1.Size, y6 r.2.2.1.Poly, y6 r.2.2.1.From, y6 r.2.2.1.End, i6 r.2.2.2.1.Size, y6 r.2.2.2.1.Poly, y6 r.2.2.2.1.From, y6 r.2.2.2.1.End, i6 r.2.2.2.2.Size, y6 r.2.2.2.2.Poly, y6 r.2.2.2.2.From, y6 r.2.2.2.2.End]) ∧ K r ∧ Below w.heap.size w w' := by
 refine enter0 Try.func116 rfl rfl (by kernel_rfl) ?_; intro q f; have g := Mem.start w Z hZ
 refine sqH ?_; intro n h
 refine nw f g pb [i6 0, y6 0, y6 0, y6 0, i6 0, y6 0, y6 0, y6 0, i6 0, y6 0, y6 0, y6 0, i6 0, y6 0, y6 0, y6 0, i6 0, y6 0, y6 0, y6 0] 177 ?_; intro a t u i c
 apply h
 refine sqH ?_; intro o j
 refine bt i c 6 [] [] [(6, .agg #[i6 15, y6 17817, y6 0, y6 0, i6 17, y6 92251, y6 65536, y6 0, i6 21, y6 1058969, y6 1048576, y6 0, i6 8, y6 47, y6 255, y6 255, i6 16, y6 4129, y6 65535, y6 0])] ?_; intro x d
 refine sx d c 0 [i6 15, y6 17817, y6 0, y6 0, i6 17, y6 92251, y6 65536, y6 0, i6 21, y6 1058969, y6 1048576, y6 0, i6 8, y6 47, y6 255, y6 255, i6 16, y6 4129, y6 65535, y6 0] 0 ?_; intro p l
 have m : Mem w.heap.size [] w Z [.row a [i6 15, y6 17817, y6 0, y6 0, i6 17, y6 92251, y6 65536, y6 0, i6 21, y6 1058969, y6 1048576, y6 0, i6 8, y6 47, y6 255, y6 255, i6 16, y6 4129, y6 65535, y6 0] 177] Z p := l
 apply j
 refine r_ (rt (fn := Try.f116) (v := .agg #[i6 15, y6 17817, y6 0, y6 0, i6 17, y6 92251, y6 65536, y6 0, i6 21, y6 1058969, y6 1048576, y6 0, i6 8, y6 47, y6 255, y6 255, i6 16, y6 4129, y6 65535, y6 0]) d (re1c d (fn := Try.f116) rfl (ad := ⟨a, 0, none⟩) (by kernel_rfl) (loadVar_run m 0 (b := a) (k := 20) (vs := [i6 15, y6 17817, y6 0, y6 0, i6 17, y6 92251, y6 65536, y6 0, i6 21, y6 1058969, y6 1048576, y6 0, i6 8, y6 47, y6 255, y6 255, i6 16, y6 4129, y6 65535, y6 0]) (ty := 177) rfl (by kernel_rfl) (by kernel_rfl)) ) ?_)
 exact ⟨((⟨15, 17817, 0, 0⟩ : Kind), (⟨17, 92251, 65536, 0⟩ : Kind), (⟨21, 1058969, 1048576, 0⟩ : Kind), (⟨8, 47, 255, 255⟩ : Kind), (⟨16, 4129, 65535, 0⟩ : Kind)), rfl, hp, m.below⟩
def ckinds_fun   (Z : Fz) (w : World)  (hZ : Z.on w) := f_ (ckinds_walk   Z w  hZ (ckinds_ok ))
theorem sindex_walk (u0 : List Int) (u1 : Int) (ao1 : Option Addr) (cap2 : Nat) (Z : Fz) (w : World) (hs3 : SlR t6 Z ao1 cap2 u0) (hZ : Z.on w) {K : Int → Prop} (hp : sindex_vc u0 u1 K) : Calls Try.prog 99 #[.slice ao1 u0.length cap2, i6 u1] w fun e w' => ∃ r : Int, e = .returned (i6 r) ∧ K r ∧ Below w.heap.size w w' := by
 refine enter0 Try.func99 rfl rfl (by kernel_rfl) ?_; intro a0 m; have g := Mem.start w Z hZ
 have J := hp (hs3.small)
 refine sqB m g [] [] [] ?_; intro a6 n
 refine s_ (sqB n g [] [] [(7, i6 (u0.length : Int)), (8, i6 0)] ?_); intro o p
 apply b_
 have q : Fr 19 [] [⟨0, [], .slice ao1 u0.length cap2⟩, ⟨1, [], i6 u1⟩, ⟨7, [], i6 (u0.length : Int)⟩, ⟨8, [], i6 0⟩] o := p.reg
 obtain ⟨L, M, N, O⟩ := J
 refine lp (ι := Int) (fun s => [⟨0, [], .slice ao1 u0.length cap2⟩, ⟨1, [], i6 u1⟩, ⟨7, [], i6 (u0.length : Int)⟩, ⟨8, [], i6 s⟩]) (fun s => []) (fun s => Z) (fun s => L s) (fun s => M s) 0 N (by exact q.region (by kernel_rfl) (by kernel_rfl)) (by exact g) ?_
 rintro a P Q R v x
 have h := O a P
 refine sqB v x [] [] [(9, .bool (decide (a < (u0.length : Int))))] ?_; intro ah c
 apply s_
 refine cd c (t := decide (a < (u0.length : Int))) (by kernel_rfl) (fun j => ?_) (fun j => ?_)
 · -- yes
  have S := h.1 j
  refine k_ (s_ (b_ (sqB c x [] [] [(5, i6 a)] ?_))); intro ai z
  refine sqH ?_; intro U A
  refine bt z x 3 [] [] [(11, i6 u1), (12, .slice ao1 u0.length cap2), (13, i6 a)] ?_; intro aj B
  obtain ⟨V, C⟩ := S
  refine ix_ B hs3 a V .i64 3 8 ?_; intro ak al W d am X Y aa D
  have i := C d X
  obtain rfl : W = ([i6 d] : List Value) := aa
  refine z1 D x 15 Y 0 (i6 d) rfl ?_; intro an E
  refine s1 E 16 (.bool (u1 == d)) ?_; intro F f
  apply A
  refine cd f (t := u1 == d) (by kernel_rfl) (fun l => ?_) (fun l => ?_)
  · -- yes
   have ab := i.1 l
   have G : Fr 19 [] [⟨5, [], i6 a⟩] F := f.reg
   refine sqB G x [] [] [(4, i6 a)] ?_; intro ao ac
   exact r_ (i_ (h_ (h_ (i_ (h_ (ra1 ac (i6 a) ⟨a, rfl, ab, x.below⟩))))))
  · -- no
   have H := i.2 l
   refine l_ (j_ (t_ ?_))
   have I : Fr 19 [] [⟨0, [], .slice ao1 u0.length cap2⟩, ⟨1, [], i6 u1⟩, ⟨7, [], i6 (u0.length : Int)⟩, ⟨8, [], i6 a⟩] F := f.reg
   refine rgB I x [] [] [(8, i6 (w64 (a + 1)))] ?_; intro ap ad
   exact d_ ⟨w64 (a + 1), H.1, H.2, (ad.region (by kernel_rfl) (by kernel_rfl)).anyβ _ (by kernel_rfl), x.kp⟩
 · -- no
  have ae := h.2 j
  refine x_ (y_ (y_ (z_ (t_ (sqB c x [] [] [(4, i6 (-1))] ?_))))); intro aq af
  exact r_ (ra1 af (i6 (-1)) ⟨-1, rfl, ae, x.below⟩)

theorem scontains_walk (u0 : List Int) (u1 : Int) (ao1 : Option Addr) (cap2 : Nat) (Z : Fz) (w : World) (hs3 : SlR t6 Z ao1 cap2 u0) (hZ : Z.on w) {K : Bool → Prop} (hp : scontains_vc u0 u1 K) : Calls Try.prog 70 #[.slice ao1 u0.length cap2, i6 u1] w fun e w' => ∃ r : Bool, e = .returned (.bool r) ∧ K r ∧ Below w.heap.size w w' := by
 refine enter0 Try.func70 rfl rfl (by kernel_rfl) ?_; intro n c; have a := Mem.start w Z hZ
 have j := hp (hs3.small)
 refine sqB c a [] [] [] ?_; intro p d
 refine sqH ?_; intro k f
 refine bt d a 2 [] [] [(5, .slice ao1 u0.length cap2), (6, i6 u1)] ?_; intro q g
 refine ck g 99 #[.slice ao1 u0.length cap2, i6 u1] ?_
 refine (sindex_walk u0 u1 ao1 cap2 _ _ hs3 a.fz j).mono ?_; rintro _ s ⟨b, rfl, l, hb⟩; refine ⟨_, rfl, ?_⟩; intro t h; have i := a.call hb
 refine bt h i 2 [] [] [(4, .bool (decide (b ≥ 0)))] ?_; intro u m
 apply f
 exact r_ (ra1 m (.bool (decide (b ≥ 0))) ⟨decide (b ≥ 0), rfl, l, i.below⟩)

theorem fkind_walk (u0 : Frame) (ao1 : Option Addr) (cap2 : Nat) (Z : Fz) (w : World) (hs3 : SlR t8 Z ao1 cap2 u0.Data) (hZ : Z.on w) {K : Int → Prop} (hp : fkind_vc u0 K) : Calls Try.prog 90 #[.agg #[i6 u0.ID, .bool u0.Long, .bool u0.Fast, .bool u0.Remote, i6 u0.Size, .slice ao1 u0.Data.length cap2]] w fun e w' => ∃ r : Int, e = .returned (i6 r) ∧ K r ∧ Below w.heap.size w w' := by
 refine enter0 Try.func90 rfl rfl (by kernel_rfl) ?_; intro x i; have j := Mem.start w Z hZ
 have d := hp (hs3.small)
 refine sqH ?_; intro n k
 refine nw i j pb (e58Dc u0 ao1 cap2) 58 ?_; intro z A B l a
 refine s1 l 2 (i6 0) ?_; intro C m
 apply k
 refine s_ (b_ (sqB m a [0] [] [(3, .bool (!u0.Fast))] ?_)); intro D b
 refine cd b (t := !u0.Fast) (by kernel_rfl) (fun g => ?_) (fun g => ?_)
 · -- yes
  have o := d.1 g
  refine sqB b a [] [] [(2, i6 0)] ?_; intro E p
  exact r_ (i_ (h_ (ra1 p (i6 0) ⟨0, rfl, o, a.below⟩)))
 · -- no
  have f := d.2 g
  refine sqB b a [0] [] [(7, .bool (decide ((u0.Data.length : Int) ≤ 16)))] ?_; intro F c
  refine cd c (t := decide ((u0.Data.length : Int) ≤ 16)) (by kernel_rfl) (fun h => ?_) (fun h => ?_)
  · -- yes
   have q := f.1 h
   refine sqB c a [] [] [(2, i6 1)] ?_; intro G s
   exact r_ (i_ (h_ (ra1 s (i6 1) ⟨1, rfl, q, a.below⟩)))
  · -- no
   have u := f.2 h
   refine l_ (j_ (t_ (sqB c a [] [] [(2, i6 2)] ?_))); intro H v
   exact r_ (ra1 v (i6 2) ⟨2, rfl, u, a.below⟩)
def fkind_fun (u0 : Frame) (ao1 : Option Addr) (cap2 : Nat) (Z : Fz) (w : World) (hs3 : SlR t8 Z ao1 cap2 u0.Data) (hZ : Z.on w) := f_ (fkind_walk u0 ao1 cap2 Z w hs3 hZ (fkind_ok u0))
theorem fname_walk (u0 : Frame) (ao1 : Option Addr) (cap2 : Nat) (Z : Fz) (w : World) (hs3 : SlR t8 Z ao1 cap2 u0.Data) (hZ : Z.on w) {K : (List UInt8) → Prop} (hp : fname_vc u0 K) : Calls Try.prog 113 #[.agg #[i6 u0.ID, .bool u0.Long, .bool u0.Fast, .bool u0.Remote, i6 u0.Size, .slice ao1 u0.Data.length cap2]] w fun e w' => ∃ r : (List UInt8), e = .returned (str r) ∧ K r ∧ Below w.heap.size w w' := by
 refine enter0 Try.func113 rfl rfl (by kernel_rfl) ?_; intro a0 u; have v := Mem.start w Z hZ
 have f := hp (hs3.small)
 refine sqH ?_; intro U x
 refine nw u v pb (e58Dc u0 ao1 cap2) 58 ?_; intro a a7 ax y c
 refine s1 y 2 (str []) ?_; intro ay z
 apply x
 refine s_ (sqB z c [0] [] [(5, .bool (!u0.Long))] ?_); intro A d
 refine cd d (t := !u0.Long) (by kernel_rfl) (fun h => ?_) (fun h => ?_)
 · -- yes
  have V := f.1 h
  have B : Fr 30 [] [⟨1, [], pt a 0⟩] A := d.reg
  refine sqQH mixed (by kernel_rfl) c ?_; intro W C
  refine q1 B 6 (pt a 0) ?_; intro az i
  refine ql_ i 0 0 (i6 u0.ID) rfl rfl ?_; intro aA D
  refine q1 D 8 (y6 (wu64 u0.ID)) ?_; intro aB E
  obtain ⟨X, Y⟩ := V
  refine qcl E (str (bwriteS (wu64 u0.ID) 11)) 115 #[y6 (wu64 u0.ID), i6 11] (nog rfl _) rfl (by kernel_rfl) (fun _ => by kernel_rfl) (qfc fun w hC => bwrite_fun (wu64 u0.ID) 11 X _ _ hC.fz) ?_; intro aC F
  refine q1 F 10 (pt a 3) ?_; intro aD j
  refine ql_ j 0 3 (.bool u0.Remote) rfl rfl ?_; intro aE G
  refine qcl G (str (fbit u0.Remote)) 127 #[.bool u0.Remote] (nog rfl _) rfl (by kernel_rfl) (fun _ => by kernel_rfl) (qfc fun w hC => fbit_fun u0.Remote _ _ hC.fz) ?_; intro aF k
  obtain ⟨aa, ab⟩ := Y
  refine qu_ k (str ((bwriteS (wu64 u0.ID) 11) ++ (fbit u0.Remote))) (fun v47 hC => stradd_run k (g := []) rfl (by kernel_rfl) (by kernel_rfl) aa rfl) ?_; intro aG l
  obtain ⟨ac, ad⟩ := ab
  refine qu_ l (str (((bwriteS (wu64 u0.ID) 11) ++ (fbit u0.Remote)) ++ ([48] : List UInt8))) (fun v52 hC => stradd_run l (g := []) rfl (by kernel_rfl) (by kernel_rfl) ac rfl) ?_; intro aH H
  refine q1 H 2 (str (((bwriteS (wu64 u0.ID) 11) ++ (fbit u0.Remote)) ++ ([48] : List UInt8))) ?_; intro aI ae
  refine qnl (C _ ?_); intro aJ af
  exact r_ (h_ (ra1 ae (str (((bwriteS (wu64 u0.ID) 11) ++ (fbit u0.Remote)) ++ ([48] : List UInt8))) ⟨((bwriteS (wu64 u0.ID) 11) ++ (fbit u0.Remote)) ++ ([48] : List UInt8), rfl, ad, af.below⟩))
 · -- no
  have ag := f.2 h
  apply k_
  have I : Fr 30 [] [⟨1, [], pt a 0⟩] A := d.reg
  refine sqQH mixed (by kernel_rfl) c ?_; intro ah J
  refine q1 I 15 (pt a 0) ?_; intro aK m
  refine ql_ m 0 0 (i6 u0.ID) rfl rfl ?_; intro aL L
  refine q1 L 17 (i6 (bShr .i64 u0.ID 18)) ?_; intro aM M
  refine q1 M 18 (y6 (wu64 (bShr .i64 u0.ID 18))) ?_; intro aN N
  obtain ⟨ai, aj⟩ := ag
  refine qcl N (str (bwriteS (wu64 (bShr .i64 u0.ID 18)) 11)) 115 #[y6 (wu64 (bShr .i64 u0.ID 18)), i6 11] (nog rfl _) rfl (by kernel_rfl) (fun _ => by kernel_rfl) (qfc fun w hC => bwrite_fun (wu64 (bShr .i64 u0.ID 18)) 11 ai _ _ hC.fz) ?_; intro aO n
  obtain ⟨ak, al⟩ := aj
  refine qu_ n (str ((bwriteS (wu64 (bShr .i64 u0.ID 18)) 11) ++ ([49, 49] : List UInt8))) (fun v82 hC => stradd_run n (g := []) rfl (by kernel_rfl) (by kernel_rfl) ak rfl) ?_; intro aP O
  refine q1 O 21 (pt a 0) ?_; intro aQ o
  refine ql_ o 0 0 (i6 u0.ID) rfl rfl ?_; intro aR P
  refine q1 P 23 (y6 (wu64 u0.ID)) ?_; intro aS Q
  obtain ⟨am, an⟩ := al
  refine qcl Q (str (bwriteS (wu64 u0.ID) 18)) 115 #[y6 (wu64 u0.ID), i6 18] (nog rfl _) rfl (by kernel_rfl) (fun _ => by kernel_rfl) (qfc fun w hC => bwrite_fun (wu64 u0.ID) 18 am _ _ hC.fz) ?_; intro aT p
  obtain ⟨ao, ap⟩ := an
  refine qu_ p (str (((bwriteS (wu64 (bShr .i64 u0.ID 18)) 11) ++ ([49, 49] : List UInt8)) ++ (bwriteS (wu64 u0.ID) 18))) (fun v101 hC => stradd_run p (g := []) rfl (by kernel_rfl) (by kernel_rfl) ao rfl) ?_; intro aU R
  refine q1 R 26 (pt a 3) ?_; intro aV q
  refine ql_ q 0 3 (.bool u0.Remote) rfl rfl ?_; intro aW S
  refine qcl S (str (fbit u0.Remote)) 127 #[.bool u0.Remote] (nog rfl _) rfl (by kernel_rfl) (fun _ => by kernel_rfl) (qfc fun w hC => fbit_fun u0.Remote _ _ hC.fz) ?_; intro aX s
  obtain ⟨aq, ar⟩ := ap
  refine qu_ s (str ((((bwriteS (wu64 (bShr .i64 u0.ID 18)) 11) ++ ([49, 49] : List UInt8)) ++ (bwriteS (wu64 u0.ID) 18)) ++ (fbit u0.Remote))) (fun v115 hC => stradd_run s (g := []) rfl (by kernel_rfl) (by kernel_rfl) aq rfl) ?_; intro aY T
  refine q1 T 2 (str ((((bwriteS (wu64 (bShr .i64 u0.ID 18)) 11) ++ ([49, 49] : List UInt8)) ++ (bwriteS (wu64 u0.ID) 18)) ++ (fbit u0.Remote))) ?_; intro aZ au
  refine qnl (J _ ?_); intro a1 av
  exact r_ (ra1 au (str ((((bwriteS (wu64 (bShr .i64 u0.ID 18)) 11) ++ ([49, 49] : List UInt8)) ++ (bwriteS (wu64 u0.ID) 18)) ++ (fbit u0.Remote))) ⟨(((bwriteS (wu64 (bShr .i64 u0.ID 18)) 11) ++ ([49, 49] : List UInt8)) ++ (bwriteS (wu64 u0.ID) 18)) ++ (fbit u0.Remote), rfl, ar, av.below⟩)

theorem dasks_walk (u0 : Task) (u1 : Int) (u2 : Bool)  (Z : Fz) (w : World)  (hZ : Z.on w) {K : Int → Prop} (hp : dasks_vc u0 u1 u2 K) : Calls Try.prog 84 #[.agg #[i6 u0.ID, i6 u0.Bytes, i6 u0.Every, i6 u0.Late, i6 u0.Jitter], i6 u1, .bool u2] w fun e w' => ∃ r : Int, e = .returned (i6 r) ∧ K r ∧ Below w.heap.size w w' := by
 refine enter0 Try.func84 rfl rfl (by kernel_rfl) ?_; intro F h; have i := Mem.start w Z hZ
 refine sqH ?_; intro s j
 refine nw h i pb (e34Dc u0) 34 ?_; intro H I J k a
 refine s1 k 6 (i6 0) ?_; intro L l
 apply j
 refine sqB l a [0] [] [(7, i6 (w64 (u1 + u0.Jitter)))] ?_; intro M m
 refine s_ (sqB m a [] [] [(12, .bool u2)] ?_); intro N b
 refine cd b (t := u2) (by kernel_rfl) (fun c => ?_) (fun c => ?_)
 · -- yes
  have u := hp.1 c
  refine sqH ?_; intro v n
  refine bt b a 3 [0] [] [(13, i6 (w64 (u1 + u0.Jitter))), (15, i6 u0.Every)] ?_; intro O d
  obtain ⟨x, y⟩ := u
  refine u_ d (i6 (w64 ((w64 (u1 + u0.Jitter)).tdiv u0.Every))) (quo_run d (g := []) rfl (by kernel_rfl) (by kernel_rfl) x rfl) ?_; intro P o
  refine bt o a 2 [] [] [(6, i6 (w64 ((w64 ((w64 (u1 + u0.Jitter)).tdiv u0.Every)) + 1)))] ?_; intro Q z
  apply n
  exact r_ (h_ (ra1 z (i6 (w64 ((w64 ((w64 (u1 + u0.Jitter)).tdiv u0.Every)) + 1))) ⟨w64 ((w64 ((w64 (u1 + u0.Jitter)).tdiv u0.Every)) + 1), rfl, y, a.below⟩))
 · -- no
  have A := hp.2 c
  refine k_ (sqH ?_); intro B p
  refine bt b a 7 [0, 0] [] [(22, i6 (w64 ((w64 ((w64 (u1 + u0.Jitter)) + u0.Every)) - 1))), (24, i6 u0.Every)] ?_; intro R f
  obtain ⟨C, D⟩ := A
  refine u_ f (i6 (w64 ((w64 ((w64 ((w64 (u1 + u0.Jitter)) + u0.Every)) - 1)).tdiv u0.Every))) (quo_run f (g := []) rfl (by kernel_rfl) (by kernel_rfl) C rfl) ?_; intro S q
  refine s1 q 6 (i6 (w64 ((w64 ((w64 ((w64 (u1 + u0.Jitter)) + u0.Every)) - 1)).tdiv u0.Every))) ?_; intro T E
  apply p
  exact r_ (ra1 E (i6 (w64 ((w64 ((w64 ((w64 (u1 + u0.Jitter)) + u0.Every)) - 1)).tdiv u0.Every))) ⟨w64 ((w64 ((w64 ((w64 (u1 + u0.Jitter)) + u0.Every)) - 1)).tdiv u0.Every), rfl, D, a.below⟩)

theorem dcheck_walk (u0 : List Task) (ao1 : Option Addr) (cap2 : Nat) (Z : Fz) (w : World) (hs3 : SlR tyTask Z ao1 cap2 u0) (hZ : Z.on w) {K : Int → Prop} (hp : dcheck_vc u0 K) : Calls Try.prog 47 #[.slice ao1 u0.length cap2] w fun e w' => ∃ r : Int, e = .returned (i6 r) ∧ K r ∧ Below w.heap.size w w' := by
 refine enter0 Try.func47 rfl rfl (by kernel_rfl) ?_; intro a0 z; have c := Mem.start w Z hZ
 have l := hp (hs3.small)
 refine sqB z c [] [] [] ?_; intro a6 A
 refine s_ (sqB A c [] [] [(8, .bool (decide ((u0.length : Int) > 20)))] ?_); intro az g
 refine cd g (t := decide ((u0.length : Int) > 20)) (by kernel_rfl) (fun q => ?_) (fun q => ?_)
 · -- yes
  have U := l.1 q
  refine sqB g c [] [] [(2, i6 2)] ?_; intro aA V
  exact r_ (h_ (ra1 V (i6 2) ⟨2, rfl, U, c.below⟩))
 · -- no
  have W := l.2 q
  refine k_ (sqB g c [] [] [(3, i6 (-1))] ?_); intro aB B
  refine s_ (sqB B c [] [] [(9, .slice ao1 u0.length cap2), (10, i6 (u0.length : Int)), (11, i6 0)] ?_); intro C D
  apply b_
  have E : Fr 72 [] [⟨3, [], i6 (-1)⟩, ⟨9, [], .slice ao1 u0.length cap2⟩, ⟨10, [], i6 (u0.length : Int)⟩, ⟨11, [], i6 0⟩] C := D.reg
  obtain ⟨X, Y, aa, ab⟩ := W
  refine lp (ι := Int × Int) (fun s => [⟨3, [], i6 s.1⟩, ⟨9, [], .slice ao1 u0.length cap2⟩, ⟨10, [], i6 (u0.length : Int)⟩, ⟨11, [], i6 s.2⟩]) (fun s => []) (fun s => Z) (fun s => X s.1 s.2) (fun s => Y s.1 s.2) ⟨-1, 0⟩ aa (by exact E.region (by kernel_rfl) (by kernel_rfl)) (by exact c) ?_
  rintro ⟨m, d⟩ ac ad ae G H
  have n := ab m d ac
  refine sqB G H [] [] [(12, .bool (decide (d < (u0.length : Int))))] ?_; intro aC h
  apply s_
  refine cd h (t := decide (d < (u0.length : Int))) (by kernel_rfl) (fun u => ?_) (fun u => ?_)
  · -- yes
   have af := n.1 u
   refine k_ (s_ (b_ (sqH ?_))); intro ag J
   obtain ⟨ah, L⟩ := af
   refine ix_ h hs3 d ah .i64 34 40 ?_; intro aD aE ai a aF aj ak al M
   have o := L a aj
   obtain rfl : ai = ((e34Dc a) : List Value) := al
   refine z2 M H 14 ak 0 5 (e34Dc a) rfl ?_; intro aG N
   refine nw N H pb [i6 0, i6 0, i6 0, i6 0, i6 0] 34 ?_; intro am aH aI v O
   refine sx v O 0 (e34Dc a) 0 ?_; intro an P
   have b : Mem w.heap.size [] w Z [.row am (e34Dc a) 34] Z an := P
   apply J
   refine s_ (sqB v b [0, 0, 0, 0, 0, 0, 0, 0, 0, 0, 0] [] [(64, .bool ((((((((((decide (a.ID < 0)) || (decide (a.ID > 2047))) || (decide (a.Every < 1))) || (decide (a.Every > 1000000))) || (decide (a.Late < 0))) || (decide (a.Late > 1000000))) || (decide (a.Jitter < 0))) || (decide (a.Jitter ≥ a.Every))) || (decide (a.Bytes < 0))) || (decide (a.Bytes > 8))))] ?_); intro aJ i
   refine cd i (t := (((((((((decide (a.ID < 0)) || (decide (a.ID > 2047))) || (decide (a.Every < 1))) || (decide (a.Every > 1000000))) || (decide (a.Late < 0))) || (decide (a.Late > 1000000))) || (decide (a.Jitter < 0))) || (decide (a.Jitter ≥ a.Every))) || (decide (a.Bytes < 0))) || (decide (a.Bytes > 8))) (by kernel_rfl) (fun x => ?_) (fun x => ?_)
   · -- yes
    have ao := o.1 x
    refine sqB i b [] [] [(2, i6 3)] ?_; intro aK ap
    exact r_ (h_ (i_ (h_ (h_ (i_ (h_ (ra1 ap (i6 3) ⟨3, rfl, ao, b.below⟩)))))))
   · -- no
    have p := o.2 x
    refine k_ (s_ (sqB i b [0] [] [(68, .bool (decide (a.ID ≤ m)))] ?_)); intro aL j
    refine cd j (t := decide (a.ID ≤ m)) (by kernel_rfl) (fun y => ?_) (fun y => ?_)
    · -- yes
     have aq := p.1 y
     refine sqB j b [] [] [(2, i6 4)] ?_; intro aM ar
     exact r_ (h_ (i_ (h_ (h_ (i_ (h_ (ra1 ar (i6 4) ⟨4, rfl, aq, b.below⟩)))))))
    · -- no
     have Q := p.2 y
     refine k_ (rgB j b [0] [] [(3, i6 a.ID)] ?_); intro au R
     refine j_ (t_ ?_)
     have S : Fr 72 [] [⟨3, [], i6 a.ID⟩, ⟨9, [], .slice ao1 u0.length cap2⟩, ⟨10, [], i6 (u0.length : Int)⟩, ⟨11, [], i6 d⟩] au := R.reg
     refine rgB S b [] [] [(11, i6 (w64 (d + 1)))] ?_; intro aN av
     exact d_ ⟨⟨a.ID, w64 (d + 1)⟩, Q.1, Q.2, (av.region (by kernel_rfl) (by kernel_rfl)).anyβ _ (by kernel_rfl), b.kp⟩
  · -- no
   have aw := n.2 u
   refine x_ (y_ (y_ (z_ (t_ (sqB h H [] [] [(2, i6 0)] ?_))))); intro aO ax
   exact r_ (ra1 ax (i6 0) ⟨0, rfl, aw, H.below⟩)

theorem tclone_walk (u0 : List Task) (ao1 : Option Addr) (cap2 : Nat) (Z : Fz) (w : World) (hs3 : SlR tyTask Z ao1 cap2 u0) (hZ : Z.on w) {K : (List Task) → Prop} (hp : tclone_vc u0 K) : Calls Try.prog 16 #[.slice ao1 u0.length cap2] w fun e w' => ∃ (r : (List Task)) (ao1001 : Option Addr) (cap1002 : Nat) (Z' : Fz), e = .returned (.slice ao1001 r.length cap1002) ∧ K r ∧ Mem w.heap.size [] w Z [.own tyTask 34 ao1001 cap1002 r] Z' w' := by
 refine enter0 Try.func16 rfl rfl (by kernel_rfl) ?_; intro N l; have a := Mem.start w Z hZ
 have m := hp (hs3.small)
 refine sqB l a [] [] [] ?_; intro P n
 refine s_ (sqH ?_); intro A o
 refine s1 n 3 (.slice ao1 u0.length cap2) ?_; intro Q h
 obtain ⟨i, p⟩ : ∃ b, ao1.isNone = b := ⟨_, rfl⟩; have d := m i (by rw [← p]; exact hs3.isNone)
 refine u_ h (.bool i) (re_ (r := .ok (.value (.bool ao1.isNone)) w) (by cases ao1 <;> exact p0 h (by kernel_rfl)) (by rw [p])) ?_; intro R c
 apply o
 refine cd c (t := i) (by kernel_rfl) (fun j => ?_) (fun j => ?_)
 · -- yes
  have B := d.1 j
  refine sqB c a [] [] [(2, .slice none 0 0)] ?_; intro S C
  refine r_ (h_ ?_)
  have D : Mem w.heap.size [] w Z [.own tyTask 34 none 0 ([] : List Task)] Z w := a.addNil tyTask 34 (by decide)
  exact ra1 C (.slice none ([] : List Task).length 0) ⟨([] : List Task), none, 0, Z, rfl, B, D.kp⟩
 · -- no
  have E := d.2 j
  refine k_ (sqH ?_); intro F q
  refine nw c a (fun b => .slice (sm b) 0 0) [] 34 ?_; intro s U G u v
  refine s1 u 6 (.slice ao1 u0.length cap2) ?_; intro V x
  have k : Mem w.heap.size [] w Z [.own tyTask 34 (sm s) 0 ([] : List Task)] Z G := v.rowOwn (T := tyTask) (xs := ([] : List Task)) 0 rfl (by decide) (by show 0 ≤ lim; decide) (RepAll.nil _ _)
  obtain ⟨H, I⟩ := E
  refine ap x k 0 (T := tyTask) (xs := ([] : List Task)) (ys := u0) (ao := (sm s)) (cap := 0) (ao2 := ao1) (cap2 := cap2) (t := 32) (e := 34) (bytes := 40) (nog rfl _) rfl (by kernel_rfl) rfl (by kernel_rfl) (by kernel_rfl) (by kernel_rfl) rfl (Src.fz (by decide) k.fz hs3) H ?_; intro f g W J X y z
  have L : Mem w.heap.size [] w Z [.own tyTask 34 f g (([] : List Task) ++ u0)] Z J := z
  refine s1 y 2 (.slice f (([] : List Task) ++ u0).length g) ?_; intro Y M
  apply q
  exact r_ (ra1 M (.slice f (([] : List Task) ++ u0).length g) ⟨([] : List Task) ++ u0, f, g, Z, rfl, I, L.kp⟩)

theorem dfix_walk (u0 : Int) (u1 : Int → Int) (fid1 : Nat) (caps2 : Array Value) (Z : Fz) (w : World) (hf3 : ∀ (Z1 : Fz) (w1 : World), Z.le Z1 → Z1.on w1 → ∀ (x0 : Int), Calls Try.prog fid1 (#[i6 x0] ++ caps2) w1 fun e w2 => e = .returned (i6 (u1 x0)) ∧ Below w1.heap.size w1 w2) (hg4 : ∀ x w, Sem.run Try.prog (callFunc fid1 x) w = .ok (.enter fid1 x) w) (hZ : Z.on w) {K : Int → Prop} (hp : dfix_vc u0 u1 K) : Calls Try.prog 82 #[i6 u0, .func (.func fid1) #[] caps2] w fun e w' => ∃ r : Int, e = .returned (i6 r) ∧ K r ∧ Below w.heap.size w w' := by
 refine enter0 Try.func82 rfl rfl (by kernel_rfl) ?_; intro S k; have h := Mem.start w Z hZ; have C := Fz.le.refl Z
 refine sqB k h [] [] [] ?_; intro l m
 apply b_
 have n : Fr 18 [] [⟨0, [], i6 u0⟩, ⟨1, [], .func (.func fid1) #[] caps2⟩] l := m.reg
 obtain ⟨D, E, F, G⟩ := hp
 refine lp (ι := Int) (fun s => [⟨0, [], i6 s⟩, ⟨1, [], .func (.func fid1) #[] caps2⟩]) (fun s => []) (fun s => Z) (fun s => D s) (fun s => E s) u0 F (by exact n.region (by kernel_rfl) (by kernel_rfl)) (by exact h) ?_
 rintro x0 H I J p q
 have f := G x0 H
 refine b_ (sqH ?_); intro L v
 refine bt p q 2 [] [] [(6, .func (.func fid1) #[] caps2), (7, i6 x0)] ?_; intro T y
 have M := hf3 _ _ C q.fz x0
 refine fcl y q (i6 (u1 x0)) fid1 (#[i6 x0] ++ caps2) (nog rfl _) rfl (by kernel_rfl) ?h1 ?h2 ?_
 case h1 => exact fv_run rfl (by kernel_rfl) (by kernel_rfl) hg4
 case h2 => exact M
 intro U V z a
 refine s1 z 5 (i6 (u1 x0)) ?_; intro W A
 apply v
 refine s_ (b_ (sqB A a [] [] [(9, .bool (decide ((u1 x0) > 200000)))] ?_)); intro X b
 refine cd b (t := decide ((u1 x0) > 200000)) (by kernel_rfl) (fun i => ?_) (fun i => ?_)
 · -- yes
  have N := f.1 i
  refine sqB b a [] [] [(4, i6 (-1))] ?_; intro Y O
  exact r_ (i_ (h_ (i_ (h_ (i_ (ra1 O (i6 (-1)) ⟨-1, rfl, N, a.below⟩))))))
 · -- no
  have g := f.2 i
  refine sqB b a [] [] [(12, .bool ((u1 x0) == x0))] ?_; intro aa c
  refine cd c (t := (u1 x0) == x0) (by kernel_rfl) (fun j => ?_) (fun j => ?_)
  · -- yes
   have P := g.1 j
   refine sqB c a [] [] [(4, i6 (u1 x0))] ?_; intro ab Q
   exact r_ (i_ (h_ (i_ (h_ (i_ (ra1 Q (i6 (u1 x0)) ⟨(u1 x0), rfl, P, a.below⟩))))))
  · -- no
   have B := g.2 j
   refine l_ (j_ (t_ (rgB c a [] [] [(0, i6 (u1 x0))] ?_))); intro ac R
   exact j_ (d_ ⟨(u1 x0), B.1, B.2, (R.region (by kernel_rfl) (by kernel_rfl)).anyβ _ (by kernel_rfl), a.kp⟩)

end Go.Proofs.Ytginlmgkimfjmaa
set_option linter.unusedVariables false
set_option linter.unusedSimpArgs false
set_option linter.defProp false
set_option maxRecDepth 100000
set_option maxHeartbeats 0
namespace Go.Proofs.Ytginlmgkimfjmaa
open Go.Sy Go.RowKit
abbrev e58Dd (X : Frame) (A0 : Option Addr) (C0 : Nat) : List Value := [i6 X.ID, .bool X.Long, .bool X.Fast, .bool X.Remote, i6 X.Size, .slice A0 X.Data.length C0]
def scontains_fun (u0 : List Int) (u1 : Int) (ao1 : Option Addr) (cap2 : Nat) (Z : Fz) (w : World) (hs3 : SlR t6 Z ao1 cap2 u0) (hZ : Z.on w) := f_ (scontains_walk u0 u1 ao1 cap2 Z w hs3 hZ (scontains_ok u0 u1))
def sindex_fun (u0 : List Int) (u1 : Int) (ao1 : Option Addr) (cap2 : Nat) (Z : Fz) (w : World) (hs3 : SlR t6 Z ao1 cap2 u0) (hZ : Z.on w) := f_ (sindex_walk u0 u1 ao1 cap2 Z w hs3 hZ (sindex_ok2 u0 u1))
def fname_fun (u0 : Frame) (hpre : 0 ≤ u0.ID ∧ u0.ID ≤ 536870911) (ao1 : Option Addr) (cap2 : Nat) (Z : Fz) (w : World) (hs3 : SlR t8 Z ao1 cap2 u0.Data) (hZ : Z.on w) := f_ (fname_walk u0 ao1 cap2 Z w hs3 hZ (fname_ok u0 hpre))
def dasks_fun (u0 : Task) (u1 : Int) (u2 : Bool) (hpre : u0.Every ≠ 0)  (Z : Fz) (w : World)  (hZ : Z.on w) := f_ (dasks_walk u0 u1 u2  Z w  hZ (dasks_ok u0 u1 u2 hpre))
def dcheck_fun (u0 : List Task) (ao1 : Option Addr) (cap2 : Nat) (Z : Fz) (w : World) (hs3 : SlR tyTask Z ao1 cap2 u0) (hZ : Z.on w) := f_ (dcheck_walk u0 ao1 cap2 Z w hs3 hZ (dcheck_ok u0))
def tclone_fun (u0 : List Task) (hpre : u0.length * 40 ≤ 140737488355328) (ao1 : Option Addr) (cap2 : Nat) (Z : Fz) (w : World) (hs3 : SlR tyTask Z ao1 cap2 u0) (hZ : Z.on w) := fc_ (tclone_walk u0 ao1 cap2 Z w hs3 hZ (tclone_ok u0 hpre))
def dfix_fun (u0 : Int) (u1 : Int → Int) (hpre : fixpre u0 u1) (fid1 : Nat) (caps2 : Array Value) (Z : Fz) (w : World) (hf3 : ∀ (Z1 : Fz) (w1 : World), Z.le Z1 → Z1.on w1 → ∀ (x0 : Int), Calls Try.prog fid1 (#[i6 x0] ++ caps2) w1 fun e w2 => e = .returned (i6 (u1 x0)) ∧ Below w1.heap.size w1 w2) (hg4 : ∀ x w, Sem.run Try.prog (callFunc fid1 x) w = .ok (.enter fid1 x) w) (hZ : Z.on w) := f_ (dfix_walk u0 u1 fid1 caps2 Z w hf3 hg4 hZ (dfix_ok u0 u1 hpre))
theorem fcheckfr_walk (u0 : Frame) (ao1 : Option Addr) (cap2 : Nat) (Z : Fz) (w : World) (hs3 : SlR t8 Z ao1 cap2 u0.Data) (hZ : Z.on w) {K : Int → Prop} (hp : fcheckfr_vc u0 K) : Calls Try.prog 58 #[.agg #[i6 u0.ID, .bool u0.Long, .bool u0.Fast, .bool u0.Remote, i6 u0.Size, .slice ao1 u0.Data.length cap2]] w fun e w' => ∃ r : Int, e = .returned (i6 r) ∧ K r ∧ Below w.heap.size w w' := by
 refine enter0 Try.func58 rfl rfl (by kernel_rfl) ?_; intro a0 C; have D := Mem.start w Z hZ
 have k := hp (hs3.small)
 refine sqH ?_; intro X E
 refine nw C D pb (e58Dd u0 ao1 cap2) 58 ?_; intro l a7 ar F a
 refine s1 F 2 (i6 0) ?_; intro au G
 apply E
 refine s_ (b_ (sqB G a [0, 0, 0, 0] [] [(3, .bool (((decide (u0.ID < 0)) || ((!u0.Long) && (decide (u0.ID > 2047)))) || (decide (u0.ID > 536870911))))] ?_)); intro av c
 refine cd c (t := ((decide (u0.ID < 0)) || ((!u0.Long) && (decide (u0.ID > 2047)))) || (decide (u0.ID > 536870911))) (by kernel_rfl) (fun q => ?_) (fun q => ?_)
 · -- yes
  have Y := k.1 q
  refine sqB c a [] [] [(2, i6 3)] ?_; intro aw aa
  exact r_ (i_ (h_ (ra1 aa (i6 3) ⟨3, rfl, Y, a.below⟩)))
 · -- no
  have m := k.2 q
  refine sqB c a [0, 0, 0] [] [(22, .bool (u0.Remote && (u0.Fast || (decide ((u0.Data.length : Int) > 0)))))] ?_; intro ax d
  refine cd d (t := u0.Remote && (u0.Fast || (decide ((u0.Data.length : Int) > 0)))) (by kernel_rfl) (fun s => ?_) (fun s => ?_)
  · -- yes
   have ab := m.1 s
   refine sqB d a [] [] [(2, i6 4)] ?_; intro ay ac
   exact r_ (i_ (h_ (ra1 ac (i6 4) ⟨4, rfl, ab, a.below⟩)))
  · -- no
   have n := m.2 s
   refine sqB d a [0, 0, 0, 0] [] [(35, .bool (((decide (u0.Size < 0)) || (decide (u0.Size > 8))) || ((!u0.Remote) && (u0.Size != 0))))] ?_; intro az f
   refine cd f (t := ((decide (u0.Size < 0)) || (decide (u0.Size > 8))) || ((!u0.Remote) && (u0.Size != 0))) (by kernel_rfl) (fun u => ?_) (fun u => ?_)
   · -- yes
    have ad := n.1 u
    refine sqB f a [] [] [(2, i6 3)] ?_; intro aA ae
    exact r_ (i_ (h_ (ra1 ae (i6 3) ⟨3, rfl, ad, a.below⟩)))
   · -- no
    have o := n.2 u
    refine sqB f a [0, 0, 0] [] [(54, .bool ((decide ((u0.Data.length : Int) > 64)) || ((!u0.Fast) && (decide ((u0.Data.length : Int) > 8)))))] ?_; intro H g
    refine cd g (t := (decide ((u0.Data.length : Int) > 64)) || ((!u0.Fast) && (decide ((u0.Data.length : Int) > 8)))) (by kernel_rfl) (fun v => ?_) (fun v => ?_)
    · -- yes
     have af := o.1 v
     have I : Fr 77 [] [] H := g.reg
     refine sqB I a [] [] [(2, i6 2)] ?_; intro aB ag
     exact r_ (i_ (h_ (ra1 ag (i6 2) ⟨2, rfl, af, a.below⟩)))
    · -- no
     have p := o.2 v
     have J : Fr 77 [] [⟨1, [], pt l 0⟩] H := g.reg
     refine wp_seq (rgS mixed a [(1, true), (2, true), (3, true), (0, false), (4, false), (5, true), (6, true)] [] [0] [.row l (e58Dd u0 ao1 cap2) 58] ?_)
     intro ah L aC x
     have b := Fz.le.refl Z
     refine cS J 3 [0] [] [(74, i6 (u0.Data.length : Int))] ?_; intro aD M
     refine eS rfl ?_; intro ai N
     refine ck M 91 #[] ?_
     refine (fsizes_fun  _ _ x.fz).mono ?_; rintro _ O ⟨P, Q, aj, rfl, hm⟩; refine ⟨_, rfl, ?_⟩; intro aE R; have S := x.callZ hm; have y := hm.ext.le
     replace b := b.mono y
     have T : Mem w.heap.size [] w Z [.own t6 3 P Q fsizes, .row l (e58Dd u0 ao1 cap2) 58] aj O := S
     refine nl (qnI (N _ _ (T.cst b [1]) ?_))
     refine eS rfl ?_; intro ak U
     obtain ⟨al, z, V, am⟩ := T.freeze 0 rfl
     replace b := b.mono z
     have A : Mem w.heap.size [] w Z [.row l (e58Dd u0 ao1 cap2) 58] al O := V
     refine fc R A (scontains_fun fsizes (u0.Data.length : Int) P Q _ _ am A.fz) ?_; intro aF aG W h
     refine nl (qnI (U _ _ (h.cst b [0]) ?_))
     refine cS W 2 [] [] [(70, .bool (!(scontainsS fsizes (u0.Data.length : Int))))] ?_; intro aH i
     refine nS (L _ _ ?_)
     apply t_
     refine cd i (t := !(scontainsS fsizes (u0.Data.length : Int))) (by kernel_rfl) (fun B => ?_) (fun B => ?_)
     · -- yes
      have an := p.1 B
      refine sqB i h [] [] [(2, i6 4)] ?_; intro aI ao
      exact r_ (i_ (h_ (ra1 ao (i6 4) ⟨4, rfl, an, h.below⟩)))
     · -- no
      have ap := p.2 B
      refine l_ (j_ (t_ (sqB i h [] [] [(2, i6 0)] ?_))); intro aJ aq
      exact r_ (ra1 aq (i6 0) ⟨0, rfl, ap, h.below⟩)
def fcheckfr_fun (u0 : Frame) (ao1 : Option Addr) (cap2 : Nat) (Z : Fz) (w : World) (hs3 : SlR t8 Z ao1 cap2 u0.Data) (hZ : Z.on w) := f_ (fcheckfr_walk u0 ao1 cap2 Z w hs3 hZ (fcheckfr_ok u0))
theorem csize_walk (u0 : Int)  (Z : Fz) (w : World)  (hZ : Z.on w) {K : (Int × Int) → Prop} (hp : csize_vc u0 K) : Calls Try.prog 89 #[i6 u0] w fun e w' => ∃ r : Int × Int, e = .returned (.tuple #[i6 r.1, i6 r.2]) ∧ K r ∧ Below w.heap.size w w' := by
 refine enter0 Try.func89 rfl rfl (by kernel_rfl) ?_; intro P j; have d := Mem.start w Z hZ
 refine sqB j d [] [] [] ?_; intro R k
 refine s_ (sqH ?_); intro G l
 refine s1 k 4 (i6 u0) ?_; intro S n
 refine s1 n 5 (.bool (decide (u0 < 0))) ?_; intro T o
 refine s1 o 6 (.bool (decide (u0 < 0))) ?_; intro U p
 have q := p.atom ((decide (u0 < 0)) == false) (by kernel_rfl)
 refine gp q 7 0 [] (decide (u0 < 0)) (i6 u0) rfl rfl ?_; intro V s
 refine gcl s d (.agg #[i6 ckinds.1.Size, y6 ckinds.1.Poly, y6 ckinds.1.From, y6 ckinds.1.End, i6 ckinds.2.1.Size, y6 ckinds.2.1.Poly, y6 ckinds.2.1.From, y6 ckinds.2.1.End, i6 ckinds.2.2.1.Size, y6 ckinds.2.2.1.Poly, y6 ckinds.2.2.1.From, y6 ckinds.2.2.1.End, i6 ckinds.2.2.2.1.Size, y6 ckinds.2.2.2.1.Poly, y6 ckinds.2.2.2.1.From, y6 ckinds.2.2.2.1.End, i6 ckinds.2.2.2.2.Size, y6 ckinds.2.2.2.2.Poly, y6 ckinds.2.2.2.2.From, y6 ckinds.2.2.2.2.End]) 116 #[] (m := 0) (cj := []) (bj := decide (u0 < 0)) rfl rfl (by kernel_rfl) rfl (by kernel_rfl) (by kernel_rfl) (by kernel_rfl) (fun _ => by kernel_rfl) (fun hg => ckinds_fun  _ _ d.fz) ?_; intro W X u a
 refine gp u 9 0 [] (decide (u0 < 0)) (i6 5) rfl rfl ?_; intro Y y
 refine gp y 10 0 [] (decide (u0 < 0)) (.bool (decide (u0 ≥ 5))) rfl rfl ?_; intro aa f
 refine u_ f (.bool ((decide (u0 < 0)) || (decide (u0 ≥ 5)))) (pk_or f (g := []) (m := 0) (b := decide (u0 < 0)) (v := decide (u0 ≥ 5)) rfl (by kernel_rfl) (by kernel_rfl) (by kernel_rfl) rfl) ?_; intro z c
 apply l
 refine cd c (t := (decide (u0 < 0)) || (decide (u0 ≥ 5))) (by kernel_rfl) (fun h => ?_) (fun h => ?_)
 · -- yes
  have H := hp.1 h
  have A : Fr 16 [] [] z := c.reg
  refine sqB A a [] [] [(2, i6 0), (3, i6 8)] ?_; intro ab I
  exact r_ (h_ (ra2 I (.tuple #[i6 0, i6 8]) ⟨(0, 8), rfl, H, a.below⟩))
 · -- no
  have J := hp.2 h
  apply k_
  have B : Fr 16 [] [⟨0, [], i6 u0⟩] z := c.reg
  refine sqH ?_; intro L C
  refine fc B a (ckinds_fun  _ _ a.fz) ?_; intro ac ad D E
  refine s1 D 13 (i6 u0) ?_; intro ae i
  obtain ⟨M, N⟩ := J
  have hix : ∀ x : Int, 0 ≤ x ∧ x < 5 → x = 0 ∨ x = 1 ∨ x = 2 ∨ x = 3 ∨ x = 4 := by intro x hx; omega
  refine u_ i (.agg #[i6 (([ckinds.1.Size, ckinds.2.1.Size, ckinds.2.2.1.Size, ckinds.2.2.2.1.Size, ckinds.2.2.2.2.Size] : List Int).getD u0.toNat 0), y6 (([ckinds.1.Poly, ckinds.2.1.Poly, ckinds.2.2.1.Poly, ckinds.2.2.2.1.Poly, ckinds.2.2.2.2.Poly] : List Int).getD u0.toNat 0), y6 (([ckinds.1.From, ckinds.2.1.From, ckinds.2.2.1.From, ckinds.2.2.2.1.From, ckinds.2.2.2.2.From] : List Int).getD u0.toNat 0), y6 (([ckinds.1.End, ckinds.2.1.End, ckinds.2.2.1.End, ckinds.2.2.2.1.End, ckinds.2.2.2.2.End] : List Int).getD u0.toNat 0)]) ((by generalize u0 = ix at *; rcases hix _ M with rfl | rfl | rfl | rfl | rfl <;> exact p0 i (by kernel_rfl))) ?_; intro af F
  refine bt F E 3 [] [] [(2, i6 (([ckinds.1.Size, ckinds.2.1.Size, ckinds.2.2.1.Size, ckinds.2.2.2.1.Size, ckinds.2.2.2.2.Size] : List Int).getD u0.toNat 0)), (3, i6 0)] ?_; intro ag O
  apply C
  exact r_ (ra2 O (.tuple #[i6 (([ckinds.1.Size, ckinds.2.1.Size, ckinds.2.2.1.Size, ckinds.2.2.2.1.Size, ckinds.2.2.2.2.Size] : List Int).getD u0.toNat 0), i6 0]) ⟨(([ckinds.1.Size, ckinds.2.1.Size, ckinds.2.2.1.Size, ckinds.2.2.2.1.Size, ckinds.2.2.2.2.Size] : List Int).getD u0.toNat 0, 0), rfl, N, E.below⟩)
def csize_fun (u0 : Int)  (Z : Fz) (w : World)  (hZ : Z.on w) := f_ (csize_walk u0  Z w  hZ (csize_ok u0))
theorem fhead_walk (u0 : Frame) (ao1 : Option Addr) (cap2 : Nat) (Z : Fz) (w : World) (hs3 : SlR t8 Z ao1 cap2 u0.Data) (hZ : Z.on w) {K : (List UInt8) → Prop} (hp : fhead_vc u0 K) : Calls Try.prog 87 #[.agg #[i6 u0.ID, .bool u0.Long, .bool u0.Fast, .bool u0.Remote, i6 u0.Size, .slice ao1 u0.Data.length cap2]] w fun e w' => ∃ r : (List UInt8), e = .returned (str r) ∧ K r ∧ Below w.heap.size w w' := by
 refine enter0 Try.func87 rfl rfl (by kernel_rfl) ?_; intro a0 L; have M := Mem.start w Z hZ
 have v := hp (hs3.small)
 refine sqH ?_; intro bY N
 refine nw L M pb (e58Dd u0 ao1 cap2) 58 ?_; intro c a7 dW O d
 refine s1 O 2 (str []) ?_; intro dX P
 apply N
 refine sqB P d [0] [] [(3, i6 u0.Size)] ?_; intro dY Q
 refine s_ (sqB Q d [0] [] [(11, .bool (!u0.Remote))] ?_); intro bZ g
 refine cd g (t := !u0.Remote) (by kernel_rfl) (fun B => ?_) (fun B => ?_)
 · -- yes
  have b0 := v.1 B
  have R : Fr 45 [] [⟨1, [], pt c 0⟩] bZ := g.reg
  refine rgS mixed d [(1, true), (2, true), (3, true), (0, false), (4, false), (5, true)] [] [0] [.row c (e58Dd u0 ao1 cap2) 58] ?_
  intro b1 S dZ C
  have f := Fz.le.refl Z
  refine cS R 3 [0] [] [(15, i6 (u0.Data.length : Int))] ?_; intro d0 T
  refine eS rfl ?_; intro b2 U
  refine ck T 91 #[] ?_
  refine (fsizes_fun  _ _ C.fz).mono ?_; rintro _ V ⟨W, X, b3, rfl, hm⟩; refine ⟨_, rfl, ?_⟩; intro d1 Y; have aa := C.callZ hm; have D := hm.ext.le
  replace hs3 := hs3.mono D
  replace f := f.mono D
  have ab : Mem w.heap.size [] w Z [.own t6 3 W X fsizes, .row c (e58Dd u0 ao1 cap2) 58] b3 V := aa
  refine nl (qnI (U _ _ (ab.cst f [1]) ?_))
  refine eS rfl ?_; intro b4 ac
  obtain ⟨b5, E, ad, b7⟩ := ab.freeze 0 rfl
  replace hs3 := hs3.mono E
  replace f := f.mono E
  have F : Mem w.heap.size [] w Z [.row c (e58Dd u0 ao1 cap2) 58] b5 V := ad
  refine fc Y F (sindex_fun fsizes (u0.Data.length : Int) W X _ _ b7 F.fz) ?_; intro d2 d3 ae h
  refine nl (qnI (ac _ _ (h.cst f [0]) ?_))
  refine cS ae 1 [] [] [(3, i6 (sindexS fsizes (u0.Data.length : Int)))] ?_; intro d4 af
  refine nS (S _ _ ?_)
  refine t_ (sqH ?_); intro b8 ag
  refine l2 af h 17 0 0 6 (e58Dd u0 ao1 cap2) rfl rfl ?_; intro d5 ah
  obtain ⟨b9, ca⟩ := b0
  refine fc ah h (fname_fun u0 b9 ao1 cap2 _ _ hs3 h.fz) ?_; intro d6 d7 ai a
  obtain ⟨cb, x⟩ := ca
  refine sa ai cb ?_; intro d8 aj
  refine s1 aj 4 (str (([48] : List UInt8) ++ (fnameS u0))) ?_; intro d9 ak
  apply ag
  refine s_ (b_ (sqB ak a [0] [] [(22, .bool u0.Fast)] ?_)); intro ea i
  refine cd i (t := u0.Fast) (by kernel_rfl) (fun G => ?_) (fun G => ?_)
  · -- yes
   have cc := x.1 G
   refine rgH ?_; intro ce al
   refine s1 i 25 (str (([48] : List UInt8) ++ (fnameS u0))) ?_; intro eb am
   obtain ⟨cf, cg⟩ := cc
   refine sa am cf ?_; intro ec an
   refine s1 an 4 (str ((([48] : List UInt8) ++ (fnameS u0)) ++ ([49, 48, 49, 48] : List UInt8))) ?_; intro ed ao
   apply al
   refine j_ (t_ (sqH ?_)); intro ch ap
   refine bt ao a 2 [0] [] [(34, .slice ao1 u0.Data.length cap2)] ?_; intro ee aq
   obtain ⟨ci, cj⟩ := cg
   refine fc aq a (bof_fun u0.Data ci ao1 cap2 _ _ hs3 a.fz) ?_; intro ef eg ar j
   refine bt ar j 5 [] [] [(5, str (bofS u0.Data).1)] ?_; intro cl au
   apply ap
   have av : Fr 45 [] [⟨3, [], i6 (sindexS fsizes (u0.Data.length : Int))⟩, ⟨4, [], str ((([48] : List UInt8) ++ (fnameS u0)) ++ ([49, 48, 49, 48] : List UInt8))⟩, ⟨5, [], str (bofS u0.Data).1⟩] cl := au.reg
   refine sqH ?_; intro cm aw
   refine bt av j 3 [] [] [(38, str ((([48] : List UInt8) ++ (fnameS u0)) ++ ([49, 48, 49, 48] : List UInt8))), (40, y6 (wu64 (sindexS fsizes (u0.Data.length : Int))))] ?_; intro eh ax
   obtain ⟨cn, co⟩ := cj
   refine fc ax j (bwrite_fun (wu64 (sindexS fsizes (u0.Data.length : Int))) 4 cn _ _ j.fz) ?_; intro ei ej ay cp
   obtain ⟨cq, cr⟩ := co
   refine sa ay cq ?_; intro ek az
   refine s1 az 43 (str (bofS u0.Data).1) ?_; intro el aA
   obtain ⟨cs, ct⟩ := cr
   refine sa aA cs ?_; intro em aB
   refine s1 aB 2 (str ((((([48] : List UInt8) ++ (fnameS u0)) ++ ([49, 48, 49, 48] : List UInt8)) ++ (bwriteS (wu64 (sindexS fsizes (u0.Data.length : Int))) 4)) ++ (bofS u0.Data).1)) ?_; intro en cu
   apply aw
   exact r_ (ra1 cu (str ((((([48] : List UInt8) ++ (fnameS u0)) ++ ([49, 48, 49, 48] : List UInt8)) ++ (bwriteS (wu64 (sindexS fsizes (u0.Data.length : Int))) 4)) ++ (bofS u0.Data).1)) ⟨(((([48] : List UInt8) ++ (fnameS u0)) ++ ([49, 48, 49, 48] : List UInt8)) ++ (bwriteS (wu64 (sindexS fsizes (u0.Data.length : Int))) 4)) ++ (bofS u0.Data).1, rfl, ct, cp.below⟩)
  · -- no
   have y := x.2 G
   refine sqB i a [0] [] [(27, .bool u0.Long)] ?_; intro eo k
   refine cd k (t := u0.Long) (by kernel_rfl) (fun H => ?_) (fun H => ?_)
   · -- yes
    have cv := y.1 H
    refine rgH ?_; intro cw aC
    refine s1 k 30 (str (([48] : List UInt8) ++ (fnameS u0))) ?_; intro ep aD
    obtain ⟨cx, cy⟩ := cv
    refine sa aD cx ?_; intro eq aE
    refine s1 aE 4 (str ((([48] : List UInt8) ++ (fnameS u0)) ++ ([48, 48] : List UInt8))) ?_; intro cz aF
    apply aC
    refine j_ (t_ ?_)
    have aG : Fr 45 [] [⟨1, [], pt c 0⟩, ⟨3, [], i6 (sindexS fsizes (u0.Data.length : Int))⟩, ⟨4, [], str ((([48] : List UInt8) ++ (fnameS u0)) ++ ([48, 48] : List UInt8))⟩] cz := aF.reg
    refine sqH ?_; intro cA aH
    refine bt aG a 2 [0] [] [(34, .slice ao1 u0.Data.length cap2)] ?_; intro er aI
    obtain ⟨cB, cC⟩ := cy
    refine fc aI a (bof_fun u0.Data cB ao1 cap2 _ _ hs3 a.fz) ?_; intro es et aJ l
    refine bt aJ l 5 [] [] [(5, str (bofS u0.Data).1)] ?_; intro eu aK
    apply aH
    refine sqH ?_; intro cD aL
    refine bt aK l 3 [] [] [(38, str ((([48] : List UInt8) ++ (fnameS u0)) ++ ([48, 48] : List UInt8))), (40, y6 (wu64 (sindexS fsizes (u0.Data.length : Int))))] ?_; intro ev aM
    obtain ⟨cE, cF⟩ := cC
    refine fc aM l (bwrite_fun (wu64 (sindexS fsizes (u0.Data.length : Int))) 4 cE _ _ l.fz) ?_; intro ew ex aN cG
    obtain ⟨cH, cI⟩ := cF
    refine sa aN cH ?_; intro ey aO
    refine s1 aO 43 (str (bofS u0.Data).1) ?_; intro ez aP
    obtain ⟨cJ, cK⟩ := cI
    refine sa aP cJ ?_; intro eA aQ
    refine s1 aQ 2 (str ((((([48] : List UInt8) ++ (fnameS u0)) ++ ([48, 48] : List UInt8)) ++ (bwriteS (wu64 (sindexS fsizes (u0.Data.length : Int))) 4)) ++ (bofS u0.Data).1)) ?_; intro eB cL
    apply aL
    exact r_ (ra1 cL (str ((((([48] : List UInt8) ++ (fnameS u0)) ++ ([48, 48] : List UInt8)) ++ (bwriteS (wu64 (sindexS fsizes (u0.Data.length : Int))) 4)) ++ (bofS u0.Data).1)) ⟨(((([48] : List UInt8) ++ (fnameS u0)) ++ ([48, 48] : List UInt8)) ++ (bwriteS (wu64 (sindexS fsizes (u0.Data.length : Int))) 4)) ++ (bofS u0.Data).1, rfl, cK, cG.below⟩)
   · -- no
    have cM := y.2 H
    refine rgH ?_; intro cN aR
    refine s1 k 20 (str (([48] : List UInt8) ++ (fnameS u0))) ?_; intro eC aS
    obtain ⟨cO, cP⟩ := cM
    refine sa aS cO ?_; intro eD aT
    refine s1 aT 4 (str ((([48] : List UInt8) ++ (fnameS u0)) ++ ([48] : List UInt8))) ?_; intro cQ aU
    apply aR
    refine j_ (t_ ?_)
    have aV : Fr 45 [] [⟨1, [], pt c 0⟩, ⟨3, [], i6 (sindexS fsizes (u0.Data.length : Int))⟩, ⟨4, [], str ((([48] : List UInt8) ++ (fnameS u0)) ++ ([48] : List UInt8))⟩] cQ := aU.reg
    refine sqH ?_; intro cR aW
    refine bt aV a 2 [0] [] [(34, .slice ao1 u0.Data.length cap2)] ?_; intro eE aX
    obtain ⟨cT, cU⟩ := cP
    refine fc aX a (bof_fun u0.Data cT ao1 cap2 _ _ hs3 a.fz) ?_; intro eF eG aY m
    refine bt aY m 5 [] [] [(5, str (bofS u0.Data).1)] ?_; intro eH aZ
    apply aW
    refine sqH ?_; intro cV a1
    refine bt aZ m 3 [] [] [(38, str ((([48] : List UInt8) ++ (fnameS u0)) ++ ([48] : List UInt8))), (40, y6 (wu64 (sindexS fsizes (u0.Data.length : Int))))] ?_; intro eI a2
    obtain ⟨cW, cX⟩ := cU
    refine fc a2 m (bwrite_fun (wu64 (sindexS fsizes (u0.Data.length : Int))) 4 cW _ _ m.fz) ?_; intro eJ eK a3 cY
    obtain ⟨cZ, c0⟩ := cX
    refine sa a3 cZ ?_; intro eL a4
    refine s1 a4 43 (str (bofS u0.Data).1) ?_; intro eM a5
    obtain ⟨c1, c2⟩ := c0
    refine sa a5 c1 ?_; intro eN a6
    refine s1 a6 2 (str ((((([48] : List UInt8) ++ (fnameS u0)) ++ ([48] : List UInt8)) ++ (bwriteS (wu64 (sindexS fsizes (u0.Data.length : Int))) 4)) ++ (bofS u0.Data).1)) ?_; intro eO c3
    apply a1
    exact r_ (ra1 c3 (str ((((([48] : List UInt8) ++ (fnameS u0)) ++ ([48] : List UInt8)) ++ (bwriteS (wu64 (sindexS fsizes (u0.Data.length : Int))) 4)) ++ (bofS u0.Data).1)) ⟨(((([48] : List UInt8) ++ (fnameS u0)) ++ ([48] : List UInt8)) ++ (bwriteS (wu64 (sindexS fsizes (u0.Data.length : Int))) 4)) ++ (bofS u0.Data).1, rfl, c2, cY.below⟩)
 · -- no
  have c4 := v.2 B
  refine k_ (sqH ?_); intro c5 a8
  refine l2 g d 17 0 0 6 (e58Dd u0 ao1 cap2) rfl rfl ?_; intro eP a9
  obtain ⟨c6, c7⟩ := c4
  refine fc a9 d (fname_fun u0 c6 ao1 cap2 _ _ hs3 d.fz) ?_; intro eQ eR ba b
  obtain ⟨c8, z⟩ := c7
  refine sa ba c8 ?_; intro eT bb
  refine s1 bb 4 (str (([48] : List UInt8) ++ (fnameS u0))) ?_; intro eU bc
  apply a8
  refine s_ (b_ (sqB bc b [0] [] [(22, .bool u0.Fast)] ?_)); intro bd n
  refine cd n (t := u0.Fast) (by kernel_rfl) (fun I => ?_) (fun I => ?_)
  · -- yes
   have c9 := z.1 I
   have be : Fr 45 [] [⟨1, [], pt c 0⟩, ⟨3, [], i6 u0.Size⟩, ⟨4, [], str (([48] : List UInt8) ++ (fnameS u0))⟩] bd := n.reg
   refine rgH ?_; intro da bf
   refine s1 be 25 (str (([48] : List UInt8) ++ (fnameS u0))) ?_; intro eV bg
   obtain ⟨db, dc⟩ := c9
   refine sa bg db ?_; intro eW bh
   refine s1 bh 4 (str ((([48] : List UInt8) ++ (fnameS u0)) ++ ([49, 48, 49, 48] : List UInt8))) ?_; intro eX bi
   apply bf
   refine j_ (t_ (sqH ?_)); intro dd bj
   refine bt bi b 2 [0] [] [(34, .slice ao1 u0.Data.length cap2)] ?_; intro eY bk
   obtain ⟨de, df⟩ := dc
   refine fc bk b (bof_fun u0.Data de ao1 cap2 _ _ hs3 b.fz) ?_; intro eZ e0 bl o
   refine bt bl o 5 [] [] [(5, str (bofS u0.Data).1)] ?_; intro e1 bm
   apply bj
   refine sqH ?_; intro dg bn
   refine bt bm o 3 [] [] [(38, str ((([48] : List UInt8) ++ (fnameS u0)) ++ ([49, 48, 49, 48] : List UInt8))), (40, y6 (wu64 u0.Size))] ?_; intro e2 bo
   obtain ⟨dh, di⟩ := df
   refine fc bo o (bwrite_fun (wu64 u0.Size) 4 dh _ _ o.fz) ?_; intro e3 e4 bp dj
   obtain ⟨dk, dl⟩ := di
   refine sa bp dk ?_; intro e5 bq
   refine s1 bq 43 (str (bofS u0.Data).1) ?_; intro e6 br
   obtain ⟨dm, dn⟩ := dl
   refine sa br dm ?_; intro e7 bs
   refine s1 bs 2 (str ((((([48] : List UInt8) ++ (fnameS u0)) ++ ([49, 48, 49, 48] : List UInt8)) ++ (bwriteS (wu64 u0.Size) 4)) ++ (bofS u0.Data).1)) ?_; intro e8 dp
   apply bn
   exact r_ (ra1 dp (str ((((([48] : List UInt8) ++ (fnameS u0)) ++ ([49, 48, 49, 48] : List UInt8)) ++ (bwriteS (wu64 u0.Size) 4)) ++ (bofS u0.Data).1)) ⟨(((([48] : List UInt8) ++ (fnameS u0)) ++ ([49, 48, 49, 48] : List UInt8)) ++ (bwriteS (wu64 u0.Size) 4)) ++ (bofS u0.Data).1, rfl, dn, dj.below⟩)
  · -- no
   have A := z.2 I
   have bu : Fr 45 [] [⟨1, [], pt c 0⟩, ⟨3, [], i6 u0.Size⟩, ⟨4, [], str (([48] : List UInt8) ++ (fnameS u0))⟩] bd := n.reg
   refine sqB bu b [0] [] [(27, .bool u0.Long)] ?_; intro e9 p
   refine cd p (t := u0.Long) (by kernel_rfl) (fun J => ?_) (fun J => ?_)
   · -- yes
    have dq := A.1 J
    refine rgH ?_; intro dr bv
    refine s1 p 30 (str (([48] : List UInt8) ++ (fnameS u0))) ?_; intro fa bw
    obtain ⟨ds, dt⟩ := dq
    refine sa bw ds ?_; intro fb bx
    refine s1 bx 4 (str ((([48] : List UInt8) ++ (fnameS u0)) ++ ([48, 48] : List UInt8))) ?_; intro fd bz
    apply bv
    refine j_ (t_ (sqH ?_)); intro du bA
    refine bt bz b 2 [0] [] [(34, .slice ao1 u0.Data.length cap2)] ?_; intro fe bB
    obtain ⟨dv, dw⟩ := dt
    refine fc bB b (bof_fun u0.Data dv ao1 cap2 _ _ hs3 b.fz) ?_; intro ff fg bC q
    refine bt bC q 5 [] [] [(5, str (bofS u0.Data).1)] ?_; intro fh bD
    apply bA
    refine sqH ?_; intro dx bE
    refine bt bD q 3 [] [] [(38, str ((([48] : List UInt8) ++ (fnameS u0)) ++ ([48, 48] : List UInt8))), (40, y6 (wu64 u0.Size))] ?_; intro fi bF
    obtain ⟨dy, dz⟩ := dw
    refine fc bF q (bwrite_fun (wu64 u0.Size) 4 dy _ _ q.fz) ?_; intro fj fk bG dA
    obtain ⟨dB, dC⟩ := dz
    refine sa bG dB ?_; intro fl bH
    refine s1 bH 43 (str (bofS u0.Data).1) ?_; intro fm bI
    obtain ⟨dD, dE⟩ := dC
    refine sa bI dD ?_; intro fn bJ
    refine s1 bJ 2 (str ((((([48] : List UInt8) ++ (fnameS u0)) ++ ([48, 48] : List UInt8)) ++ (bwriteS (wu64 u0.Size) 4)) ++ (bofS u0.Data).1)) ?_; intro fo dF
    apply bE
    exact r_ (ra1 dF (str ((((([48] : List UInt8) ++ (fnameS u0)) ++ ([48, 48] : List UInt8)) ++ (bwriteS (wu64 u0.Size) 4)) ++ (bofS u0.Data).1)) ⟨(((([48] : List UInt8) ++ (fnameS u0)) ++ ([48, 48] : List UInt8)) ++ (bwriteS (wu64 u0.Size) 4)) ++ (bofS u0.Data).1, rfl, dE, dA.below⟩)
   · -- no
    have dG := A.2 J
    refine rgH ?_; intro dH bK
    refine s1 p 20 (str (([48] : List UInt8) ++ (fnameS u0))) ?_; intro fp bL
    obtain ⟨dI, dJ⟩ := dG
    refine sa bL dI ?_; intro fq bM
    refine s1 bM 4 (str ((([48] : List UInt8) ++ (fnameS u0)) ++ ([48] : List UInt8))) ?_; intro fr bN
    apply bK
    refine j_ (t_ (sqH ?_)); intro dK bO
    refine bt bN b 2 [0] [] [(34, .slice ao1 u0.Data.length cap2)] ?_; intro fs bP
    obtain ⟨dL, dM⟩ := dJ
    refine fc bP b (bof_fun u0.Data dL ao1 cap2 _ _ hs3 b.fz) ?_; intro ft fu bQ s
    refine bt bQ s 5 [] [] [(5, str (bofS u0.Data).1)] ?_; intro fv bR
    apply bO
    refine sqH ?_; intro dN bS
    refine bt bR s 3 [] [] [(38, str ((([48] : List UInt8) ++ (fnameS u0)) ++ ([48] : List UInt8))), (40, y6 (wu64 u0.Size))] ?_; intro fw bT
    obtain ⟨dO, dP⟩ := dM
    refine fc bT s (bwrite_fun (wu64 u0.Size) 4 dO _ _ s.fz) ?_; intro fx fy bU dQ
    obtain ⟨dR, dS⟩ := dP
    refine sa bU dR ?_; intro fA bV
    refine s1 bV 43 (str (bofS u0.Data).1) ?_; intro fB bW
    obtain ⟨dT, dU⟩ := dS
    refine sa bW dT ?_; intro fC bX
    refine s1 bX 2 (str ((((([48] : List UInt8) ++ (fnameS u0)) ++ ([48] : List UInt8)) ++ (bwriteS (wu64 u0.Size) 4)) ++ (bofS u0.Data).1)) ?_; intro fD dV
    apply bS
    exact r_ (ra1 dV (str ((((([48] : List UInt8) ++ (fnameS u0)) ++ ([48] : List UInt8)) ++ (bwriteS (wu64 u0.Size) 4)) ++ (bofS u0.Data).1)) ⟨(((([48] : List UInt8) ++ (fnameS u0)) ++ ([48] : List UInt8)) ++ (bwriteS (wu64 u0.Size) 4)) ++ (bofS u0.Data).1, rfl, dU, dQ.below⟩)

end Go.Proofs.Ytginlmgkimfjmaa
set_option linter.unusedVariables false
set_option linter.unusedSimpArgs false
set_option linter.defProp false
set_option maxRecDepth 100000
set_option maxHeartbeats 0
namespace Go.Proofs.Ytginlmgkimfjmaa
open Go.Sy Go.RowKit
def fhead_fun (u0 : Frame) (hpre : fheadpre u0) (ao1 : Option Addr) (cap2 : Nat) (Z : Fz) (w : World) (hs3 : SlR t8 Z ao1 cap2 u0.Data) (hZ : Z.on w) := f_ (fhead_walk u0 ao1 cap2 Z w hs3 hZ (fhead_ok u0 hpre))
theorem flongest_walk (u0 : Bool) (u1 : Bool) (u2 : Int)  (Z : Fz) (w : World)  (hZ : Z.on w) {K : (Int × Int) → Prop} (hp : flongest_vc u0 u1 u2 K) : Calls Try.prog 55 #[.bool u0, .bool u1, i6 u2] w fun e w' => ∃ r : Int × Int, e = .returned (.tuple #[i6 r.1, i6 r.2]) ∧ K r ∧ Below w.heap.size w w' := by
 refine enter0 Try.func55 rfl rfl (by kernel_rfl) ?_; intro a0 C; have l := Mem.start w Z hZ
 refine sqB C l [] [] [] ?_; intro a4 E
 refine sqH ?_; intro av F
 refine bt E l 3 [] [] [(19, .agg #[i6 0, .bool u0, .bool u1, .bool false, i6 0, .slice none 0 0])] ?_; intro aU G
 refine nw G l pb [i6 0, .bool false, .bool false, .bool false, i6 0, .slice none 0 0] 58 ?_; intro c aV aW o H
 refine sx o H 0 [i6 0, .bool u0, .bool u1, .bool false, i6 0, .slice none 0 0] 0 ?_; intro aw I
 have f : Mem w.heap.size [] w Z [.row c [i6 0, .bool u0, .bool u1, .bool false, i6 0, .slice none 0 0] 58] Z aw := I
 apply F
 refine s_ (sqB o f [] [] [(25, .bool ((decide (u2 < 0)) || (decide (u2 > 64))))] ?_); intro aX g
 refine cd g (t := (decide (u2 < 0)) || (decide (u2 > 64))) (by kernel_rfl) (fun p => ?_) (fun p => ?_)
 · -- yes
  have ax := hp.1 p
  refine sqB g f [] [] [(6, i6 0), (7, i6 2)] ?_; intro aY ay
  exact r_ (h_ (ra2 ay (.tuple #[i6 0, i6 2]) ⟨(0, 2), rfl, ax, f.below⟩))
 · -- no
  have az := hp.2 p
  refine k_ (sqH ?_); intro aA J
  refine s1 g 26 (i6 u2) ?_; intro aZ L
  obtain ⟨a1, m⟩ := az
  refine mks L f (T := t8) u2 u2 (k := .i64) (k' := .i64) (e := 5) (bytes := 1) (zs := [y8 0]) (z := 0) (by simp only [lim]; omega) (nog rfl _) rfl (by kernel_rfl) rfl (by kernel_rfl) (by kernel_rfl) (by kernel_rfl) (by kernel_rfl) rfl ?_; intro a a2 aB M N
  have O : Mem w.heap.size [] w Z [.own t8 5 (sm a) u2.toNat (List.replicate u2.toNat (0 : Int)), .row c [i6 0, .bool u0, .bool u1, .bool false, i6 0, .slice none 0 0] 58] Z aB := N
  refine s1 M 28 (pt c 5) ?_; intro a3 q
  refine sx q O 1 [i6 0, .bool u0, .bool u1, .bool false, i6 0, .slice (sm a) (List.replicate u2.toNat (0 : Int)).length u2.toNat] 5 ?_; intro P Q
  have R : Mem w.heap.size [] w Z [.own t8 5 (sm a) u2.toNat (List.replicate u2.toNat (0 : Int)), .row c [i6 0, .bool u0, .bool u1, .bool false, i6 0, .slice (sm a) (List.replicate u2.toNat (0 : Int)).length u2.toNat] 58] Z P := Q
  apply J
  refine s_ (sqH ?_); intro aC S
  refine l2 q R 29 1 0 6 [i6 0, .bool u0, .bool u1, .bool false, i6 0, .slice (sm a) (List.replicate u2.toNat (0 : Int)).length u2.toNat] rfl rfl ?_; intro a5 U
  obtain ⟨aD, aE, V, s⟩ := R.freeze 0 rfl
  have u : Mem w.heap.size [] w Z [.row c [i6 0, .bool u0, .bool u1, .bool false, i6 0, .slice (sm a) (List.replicate u2.toNat (0 : Int)).length u2.toNat] 58] aD P := V
  refine fc U u (fcheckfr_fun (⟨0, u0, u1, false, 0, (List.replicate u2.toNat (0 : Int))⟩ : Frame) (sm a) u2.toNat _ _ s u.fz) ?_; intro a6 a7 W d
  refine s1 W 9 (i6 (fcheckfr (⟨0, u0, u1, false, 0, (List.replicate u2.toNat (0 : Int))⟩ : Frame))) ?_; intro aF X
  apply S
  have Y : Fr 68 [] [⟨1, [], .bool u1⟩, ⟨8, [], pt c 0⟩, ⟨9, [], i6 (fcheckfr (⟨0, u0, u1, false, 0, (List.replicate u2.toNat (0 : Int))⟩ : Frame))⟩] aF := X.reg
  refine sqB Y d [] [] [(32, .bool ((fcheckfr (⟨0, u0, u1, false, 0, (List.replicate u2.toNat (0 : Int))⟩ : Frame)) != 0))] ?_; intro a8 h
  refine cd h (t := (fcheckfr (⟨0, u0, u1, false, 0, (List.replicate u2.toNat (0 : Int))⟩ : Frame)) != 0) (by kernel_rfl) (fun v => ?_) (fun v => ?_)
  · -- yes
   have aG := m.1 v
   refine sqB h d [] [] [(6, i6 0), (7, i6 (fcheckfr (⟨0, u0, u1, false, 0, (List.replicate u2.toNat (0 : Int))⟩ : Frame)))] ?_; intro a9 aH
   exact r_ (h_ (ra2 aH (.tuple #[i6 0, i6 (fcheckfr (⟨0, u0, u1, false, 0, (List.replicate u2.toNat (0 : Int))⟩ : Frame))]) ⟨(0, (fcheckfr (⟨0, u0, u1, false, 0, (List.replicate u2.toNat (0 : Int))⟩ : Frame))), rfl, aG, d.below⟩))
  · -- no
   have aI := m.2 v
   refine k_ (sqH ?_); intro aJ aa
   refine l2 h d 34 0 0 6 [i6 0, .bool u0, .bool u1, .bool false, i6 0, .slice (sm a) (List.replicate u2.toNat (0 : Int)).length u2.toNat] rfl rfl ?_; intro ba ab
   obtain ⟨aK, n⟩ := aI
   refine fc ab d (fhead_fun (⟨0, u0, u1, false, 0, (List.replicate u2.toNat (0 : Int))⟩ : Frame) aK (sm a) u2.toNat _ _ s d.fz) ?_; intro bb bc ac b
   refine bt ac b 2 [] [] [(10, i6 ((fheadS (⟨0, u0, u1, false, 0, (List.replicate u2.toNat (0 : Int))⟩ : Frame)).length : Int))] ?_; intro bd ad
   apply aa
   refine s_ (sqB ad b [] [] [(38, .bool (!u1))] ?_); intro be i
   refine cd i (t := !u1) (by kernel_rfl) (fun x => ?_) (fun x => ?_)
   · -- yes
    have aL := n.1 x
    refine sqH ?_; intro aM ae
    refine bt i b 2 [] [] [(41, i6 (w64 (((fheadS (⟨0, u0, u1, false, 0, (List.replicate u2.toNat (0 : Int))⟩ : Frame)).length : Int) + 15)))] ?_; intro bf af
    refine fc af b (smost_fun (w64 (((fheadS (⟨0, u0, u1, false, 0, (List.replicate u2.toNat (0 : Int))⟩ : Frame)).length : Int) + 15)) _ _ b.fz) ?_; intro bg bh ag y
    refine bt ag y 5 [] [] [(11, i6 (smost (w64 (((fheadS (⟨0, u0, u1, false, 0, (List.replicate u2.toNat (0 : Int))⟩ : Frame)).length : Int) + 15))).1)] ?_; intro aN ah
    apply ae
    have ai : Fr 68 [] [⟨11, [], i6 (smost (w64 (((fheadS (⟨0, u0, u1, false, 0, (List.replicate u2.toNat (0 : Int))⟩ : Frame)).length : Int) + 15))).1⟩] aN := ah.reg
    refine sqB ai y [] [] [(6, i6 (w64 ((smost (w64 (((fheadS (⟨0, u0, u1, false, 0, (List.replicate u2.toNat (0 : Int))⟩ : Frame)).length : Int) + 15))).1 + 10))), (7, i6 0)] ?_; intro bi aO
    exact r_ (h_ (ra2 aO (.tuple #[i6 (w64 ((smost (w64 (((fheadS (⟨0, u0, u1, false, 0, (List.replicate u2.toNat (0 : Int))⟩ : Frame)).length : Int) + 15))).1 + 10)), i6 0]) ⟨(w64 ((smost (w64 (((fheadS (⟨0, u0, u1, false, 0, (List.replicate u2.toNat (0 : Int))⟩ : Frame)).length : Int) + 15))).1 + 10), 0), rfl, aL, y.below⟩))
   · -- no
    have aP := n.2 x
    refine k_ (sqH ?_); intro aQ aj
    refine s1 i 48 (i6 ((fheadS (⟨0, u0, u1, false, 0, (List.replicate u2.toNat (0 : Int))⟩ : Frame)).length : Int)) ?_; intro bj ak
    refine fc ak b (smost_fun ((fheadS (⟨0, u0, u1, false, 0, (List.replicate u2.toNat (0 : Int))⟩ : Frame)).length : Int) _ _ b.fz) ?_; intro bk bl al j
    refine bt al j 5 [] [] [(13, i6 (smost ((fheadS (⟨0, u0, u1, false, 0, (List.replicate u2.toNat (0 : Int))⟩ : Frame)).length : Int)).1)] ?_; intro aR am
    apply aj
    have an : Fr 68 [] [⟨8, [], pt c 0⟩, ⟨13, [], i6 (smost ((fheadS (⟨0, u0, u1, false, 0, (List.replicate u2.toNat (0 : Int))⟩ : Frame)).length : Int)).1⟩] aR := am.reg
    refine sqH ?_; intro aS ao
    refine l2 an j 53 0 0 6 [i6 0, .bool u0, .bool u1, .bool false, i6 0, .slice (sm a) (List.replicate u2.toNat (0 : Int)).length u2.toNat] rfl rfl ?_; intro bm ap
    refine fc ap j (fkind_fun (⟨0, u0, u1, false, 0, (List.replicate u2.toNat (0 : Int))⟩ : Frame) (sm a) u2.toNat _ _ s j.fz) ?_; intro bn bo aq A
    refine fc aq A (csize_fun (fkind (⟨0, u0, u1, false, 0, (List.replicate u2.toNat (0 : Int))⟩ : Frame)) _ _ A.fz) ?_; intro bp bq ar B
    refine bt ar B 5 [] [] [(15, i6 (csize (fkind (⟨0, u0, u1, false, 0, (List.replicate u2.toNat (0 : Int))⟩ : Frame))).1)] ?_; intro br au
    apply ao
    refine sqB au B [] [] [(6, i6 (w64 ((w64 ((smost ((fheadS (⟨0, u0, u1, false, 0, (List.replicate u2.toNat (0 : Int))⟩ : Frame)).length : Int)).1 + (w64 ((w64 (4 + (csize (fkind (⟨0, u0, u1, false, 0, (List.replicate u2.toNat (0 : Int))⟩ : Frame))).1)) + (w64 ((w64 ((w64 (4 + (csize (fkind (⟨0, u0, u1, false, 0, (List.replicate u2.toNat (0 : Int))⟩ : Frame))).1)) + 3)).tdiv 4)))))) + 10))), (7, i6 0)] ?_; intro bs aT
    exact r_ (ra2 aT (.tuple #[i6 (w64 ((w64 ((smost ((fheadS (⟨0, u0, u1, false, 0, (List.replicate u2.toNat (0 : Int))⟩ : Frame)).length : Int)).1 + (w64 ((w64 (4 + (csize (fkind (⟨0, u0, u1, false, 0, (List.replicate u2.toNat (0 : Int))⟩ : Frame))).1)) + (w64 ((w64 ((w64 (4 + (csize (fkind (⟨0, u0, u1, false, 0, (List.replicate u2.toNat (0 : Int))⟩ : Frame))).1)) + 3)).tdiv 4)))))) + 10)), i6 0]) ⟨(w64 ((w64 ((smost ((fheadS (⟨0, u0, u1, false, 0, (List.replicate u2.toNat (0 : Int))⟩ : Frame)).length : Int)).1 + (w64 ((w64 (4 + (csize (fkind (⟨0, u0, u1, false, 0, (List.replicate u2.toNat (0 : Int))⟩ : Frame))).1)) + (w64 ((w64 ((w64 (4 + (csize (fkind (⟨0, u0, u1, false, 0, (List.replicate u2.toNat (0 : Int))⟩ : Frame))).1)) + 3)).tdiv 4)))))) + 10), 0), rfl, aP, B.below⟩)

end Go.Proofs.Ytginlmgkimfjmaa
set_option linter.unusedVariables false
set_option linter.unusedSimpArgs false
set_option linter.defProp false
set_option maxRecDepth 100000
set_option maxHeartbeats 0
namespace Go.Proofs.Ytginlmgkimfjmaa
open Go.Sy Go.RowKit
def flongest_fun (u0 : Bool) (u1 : Bool) (u2 : Int)  (Z : Fz) (w : World)  (hZ : Z.on w) := f_ (flongest_walk u0 u1 u2  Z w  hZ (flongest_ok u0 u1 u2))
theorem dlong_walk (u0 : Task)  (Z : Fz) (w : World)  (hZ : Z.on w) {K : Int → Prop} (hp : dlong_vc u0 K) : Calls Try.prog 81 #[.agg #[i6 u0.ID, i6 u0.Bytes, i6 u0.Every, i6 u0.Late, i6 u0.Jitter]] w fun e w' => ∃ r : Int, e = .returned (i6 r) ∧ K r ∧ Below w.heap.size w w' := by
 refine enter0 Try.func81 rfl rfl (by kernel_rfl) ?_; intro p c; have d := Mem.start w Z hZ
 refine sqH ?_; intro m f
 refine nw c d pb [i6 u0.ID, i6 u0.Bytes, i6 u0.Every, i6 u0.Late, i6 u0.Jitter] 34 ?_; intro s t u g a
 refine s1 g 2 (i6 0) ?_; intro v h
 apply f
 refine sqH ?_; intro n i
 refine bt h a 2 [0] [] [(7, i6 u0.Bytes)] ?_; intro x j
 refine fc j a (flongest_fun false false u0.Bytes _ _ a.fz) ?_; intro y z k b
 refine bt k b 5 [] [] [(3, i6 (flongestS false false u0.Bytes).1)] ?_; intro A l
 apply i
 refine sqB l b [] [] [(2, i6 (w64 ((flongestS false false u0.Bytes).1 + 3)))] ?_; intro B o
 exact r_ (ra1 o (i6 (w64 ((flongestS false false u0.Bytes).1 + 3))) ⟨w64 ((flongestS false false u0.Bytes).1 + 3), rfl, hp, b.below⟩)

end Go.Proofs.Ytginlmgkimfjmaa
set_option linter.unusedVariables false
set_option linter.unusedSimpArgs false
set_option linter.defProp false
set_option maxRecDepth 100000
set_option maxHeartbeats 0
namespace Go.Proofs.Ytginlmgkimfjmaa
open Go.Sy Go.RowKit
abbrev e34Dg (X : Task) : List Value := [i6 X.ID, i6 X.Bytes, i6 X.Every, i6 X.Late, i6 X.Jitter]
def dlong_fun (u0 : Task)  (Z : Fz) (w : World)  (hZ : Z.on w) := f_ (dlong_walk u0  Z w  hZ (dlong_ok u0))
theorem dtasks_walk   (Z : Fz) (w : World)  (hZ : Z.on w) {K : (List Task) → Prop} (hp : dtasks_vc  K) : Calls Try.prog 49 #[] w fun e w' => ∃ (r : (List Task)) (ao1001 : Option Addr) (cap1002 : Nat) (Z' : Fz), e = .returned (.slice ao1001 r.length cap1002) ∧ K r ∧ Mem w.heap.size [] w Z [.own tyTask 34 ao1001 cap1002 r] Z' w' := by
 refine enter0 Try.func49 rfl rfl (by kernel_rfl) ?_; intro o d; have a := Mem.start w Z hZ
 refine sqB d a [] [] [] ?_; intro q f
 refine sqH ?_; intro k g
 refine bt f a 2 [] [] [(1, .agg #[i6 1, i6 8, i6 1000, i6 1000, i6 0]), (2, .agg #[i6 2, i6 8, i6 1000, i6 1000, i6 0])] ?_; intro s h
 refine nw h a (fun b => .slice (sm b) 2 2) [i6 1, i6 8, i6 1000, i6 1000, i6 0, i6 2, i6 8, i6 1000, i6 1000, i6 0] 34 ?_; intro c t l i j
 refine s1 i 0 (.slice (sm c) 2 2) ?_; intro u m
 apply g
 apply r_
 have n : Mem w.heap.size [] w Z [.own tyTask 34 (sm c) 2 ([(⟨1, 8, 1000, 1000, 0⟩ : Task), (⟨2, 8, 1000, 1000, 0⟩ : Task)] : List Task)] Z l := j.rowOwn (T := tyTask) (xs := ([(⟨1, 8, 1000, 1000, 0⟩ : Task), (⟨2, 8, 1000, 1000, 0⟩ : Task)] : List Task)) 0 rfl (by decide) (by show 2 ≤ lim; decide) ((RepAll.one (T := tyTask) (x := (⟨1, 8, 1000, 1000, 0⟩ : Task)) rfl).append (RepAll.one (T := tyTask) (x := (⟨2, 8, 1000, 1000, 0⟩ : Task)) rfl))
 exact ra1 m (.slice (sm c) ([(⟨1, 8, 1000, 1000, 0⟩ : Task), (⟨2, 8, 1000, 1000, 0⟩ : Task)] : List Task).length 2) ⟨([(⟨1, 8, 1000, 1000, 0⟩ : Task), (⟨2, 8, 1000, 1000, 0⟩ : Task)] : List Task), (sm c), 2, Z, rfl, hp, n.kp⟩

theorem dw1_walk (u0 : Int) (u1 : Int) (u2 : List Task) (u3 : Int) (cb1 co2 : Nat) (cb7 co8 : Nat) (ao4 : Option Addr) (cap5 : Nat) (cb10 co11 : Nat) (Z : Fz) (w : World) (hP3 : PtR Z cb1 co2 [i6 u1]) (hP9 : PtR Z cb7 co8 [.slice ao4 u2.length cap5]) (hs6 : SlR tyTask Z ao4 cap5 u2) (hP12 : PtR Z cb10 co11 [i6 u3]) (hZ : Z.on w) {K : Int → Prop} (hp : dw1_vc u0 u1 u2 u3 K) : Calls Try.prog 83 #[i6 u0, pt cb1 co2, pt cb7 co8, pt cb10 co11] w fun e w' => ∃ r : Int, e = .returned (i6 r) ∧ K r ∧ Below w.heap.size w w' := by
 refine enter0 Try.func83 rfl rfl (by kernel_rfl) ?_; intro a0 v; have f := Mem.start w Z hZ
 refine sqB v f [] [] [] ?_; intro aM x
 refine sqH ?_; intro ai y
 refine z1 x f 9 hP3 0 (i6 u1) rfl ?_; intro aN z
 refine s1 z 6 (i6 u1) ?_; intro aO A
 apply y
 refine s_ (sqH ?_); intro aj B
 refine z1 A f 10 hP9 0 (.slice ao4 u2.length cap5) rfl ?_; intro aP C
 refine z1 C f 11 hP12 0 (i6 u3) rfl ?_; intro aQ D
 refine s1 D 12 (i6 (w64 (u3 + 1))) ?_; intro aR E
 obtain ⟨ak, al⟩ := hp
 refine slH E (T := tyTask) (xs := u2) hs6 (w64 (u3 + 1)) ak (k' := .i64) (e := 34) (bytes := 40) (nog rfl _) rfl (by kernel_rfl) rfl (by kernel_rfl) (by kernel_rfl) (by kernel_rfl) ?_; intro i j aS aT am F
 refine bt F f 2 [] [] [(14, i6 ((u2.take (w64 (u3 + 1)).toNat).length : Int)), (15, i6 0)] ?_; intro G H
 apply B
 apply b_
 have I : Fr 29 [] [⟨0, [], i6 u0⟩, ⟨6, [], i6 u1⟩, ⟨13, [], .slice i (u2.take (w64 (u3 + 1)).toNat).length j⟩, ⟨14, [], i6 ((u2.take (w64 (u3 + 1)).toNat).length : Int)⟩, ⟨15, [], i6 0⟩] G := H.reg
 obtain ⟨an, ao, ap, aq⟩ := al
 refine lp (ι := Int × Int) (fun s => [⟨0, [], i6 u0⟩, ⟨6, [], i6 s.1⟩, ⟨13, [], .slice i (u2.take (w64 (u3 + 1)).toNat).length j⟩, ⟨14, [], i6 ((u2.take (w64 (u3 + 1)).toNat).length : Int)⟩, ⟨15, [], i6 s.2⟩]) (fun s => []) (fun s => Z) (fun s => an s.1 s.2) (fun s => ao s.1 s.2) ⟨u1, 0⟩ ap (by exact I.region (by kernel_rfl) (by kernel_rfl)) (by exact f) ?_
 rintro ⟨c, d⟩ ar au av L M
 have m := aq c d ar
 refine sqB L M [] [] [(16, .bool (decide (d < ((u2.take (w64 (u3 + 1)).toNat).length : Int))))] ?_; intro aU l
 apply s_
 refine cd l (t := decide (d < ((u2.take (w64 (u3 + 1)).toNat).length : Int))) (by kernel_rfl) (fun o => ?_) (fun o => ?_)
 · -- yes
  have aw := m.1 o
  refine k_ (s_ (b_ (sqH ?_))); intro ax O
  obtain ⟨ay, P⟩ := aw
  refine ix_ l am d ay .i64 34 40 ?_; intro aV aW az a aX aA aB aC Q
  have aD := P a aA
  obtain rfl : az = ((e34Dg a) : List Value) := aC
  refine z2 Q M 18 aB 0 5 (e34Dg a) rfl ?_; intro aY R
  refine nw R M pb [i6 0, i6 0, i6 0, i6 0, i6 0] 34 ?_; intro n aE aZ p S
  refine sx p S 0 (e34Dg a) 0 ?_; intro aF U
  have V : Mem w.heap.size [] w Z [.row n (e34Dg a) 34] Z aF := U
  apply O
  have W : Fr 29 [] [⟨0, [], i6 u0⟩, ⟨6, [], i6 c⟩, ⟨8, [], pt n 0⟩, ⟨13, [], .slice i (u2.take (w64 (u3 + 1)).toNat).length j⟩, ⟨14, [], i6 ((u2.take (w64 (u3 + 1)).toNat).length : Int)⟩, ⟨15, [], i6 d⟩] aE := p.reg
  refine qrgH mixed (by kernel_rfl) V ?_; intro aG X
  refine q1 W 19 (i6 c) ?_; intro a1 q
  refine qu_ q (.agg (e34Dg a).toArray) (fun v87 hC => lda q hC 0 (g := []) (b := n) (off := 0) (k := 5) (cs := (e34Dg a)) (vs := (e34Dg a)) (ty := 34) rfl (by kernel_rfl) (by kernel_rfl) (by kernel_rfl) (by kernel_rfl) (by kernel_rfl) rfl) ?_; intro a2 Y
  refine q1 Y 21 (i6 u0) ?_; intro a3 aa
  obtain ⟨aH, ab⟩ := aD
  refine qcl aa (i6 (dasksS a u0 false)) 84 #[.agg (e34Dg a).toArray, i6 u0, .bool false] (nog rfl _) rfl (by kernel_rfl) (fun _ => by kernel_rfl) (qfc fun w hC => dasks_fun a u0 false aH _ _ hC.fz) ?_; intro a4 u
  refine qu_ u (.agg (e34Dg a).toArray) (fun v98 hC => lda u hC 0 (g := []) (b := n) (off := 0) (k := 5) (cs := (e34Dg a)) (vs := (e34Dg a)) (ty := 34) rfl (by kernel_rfl) (by kernel_rfl) (by kernel_rfl) (by kernel_rfl) (by kernel_rfl) rfl) ?_; intro a5 ac
  refine qcl ac (i6 (dlongS a)) 81 #[.agg (e34Dg a).toArray] (nog rfl _) rfl (by kernel_rfl) (fun _ => by kernel_rfl) (qfc fun w hC => dlong_fun a _ _ hC.fz) ?_; intro a6 ad
  refine q1 ad 25 (i6 (w64 ((dasksS a u0 false) * (dlongS a)))) ?_; intro a7 ae
  refine q1 ae 26 (i6 (w64 (c + (w64 ((dasksS a u0 false) * (dlongS a)))))) ?_; intro a8 af
  refine q1 af 6 (i6 (w64 (c + (w64 ((dasksS a u0 false) * (dlongS a)))))) ?_; intro a9 ag
  refine qnl (X _ ?_); intro ba ah
  refine j_ (t_ (rgB ag ah [] [] [(15, i6 (w64 (d + 1)))] ?_)); intro bb aI
  exact d_ ⟨⟨w64 (c + (w64 ((dasksS a u0 false) * (dlongS a)))), w64 (d + 1)⟩, ab.1, ab.2, (aI.region (by kernel_rfl) (by kernel_rfl)).anyβ _ (by kernel_rfl), ah.kp⟩
 · -- no
  have aJ := m.2 o
  refine x_ (y_ (y_ (z_ (t_ (sqB l M [] [] [(5, i6 c)] ?_))))); intro bc aK
  exact r_ (ra1 aK (i6 c) ⟨c, rfl, aJ, M.below⟩)

theorem dw2_walk (u0 : Int) (u1 : Int) (u2 : Int) (u3 : Task) (u4 : List Task) (u5 : Int) (cb1 co2 : Nat) (cb4 co5 : Nat) (cb7 co8 : Nat) (cb13 co14 : Nat) (ao10 : Option Addr) (cap11 : Nat) (cb16 co17 : Nat) (Z : Fz) (w : World) (hP3 : PtR Z cb1 co2 [i6 u1]) (hP6 : PtR Z cb4 co5 [i6 u2]) (hP9 : PtR Z cb7 co8 [i6 u3.ID, i6 u3.Bytes, i6 u3.Every, i6 u3.Late, i6 u3.Jitter]) (hP15 : PtR Z cb13 co14 [.slice ao10 u4.length cap11]) (hs12 : SlR tyTask Z ao10 cap11 u4) (hP18 : PtR Z cb16 co17 [i6 u5]) (hZ : Z.on w) {K : Int → Prop} (hp : dw2_vc u0 u1 u2 u3 u4 u5 K) : Calls Try.prog 85 #[i6 u0, pt cb1 co2, pt cb4 co5, pt cb7 co8, pt cb13 co14, pt cb16 co17] w fun e w' => ∃ r : Int, e = .returned (i6 r) ∧ K r ∧ Below w.heap.size w w' := by
 refine enter0 Try.func85 rfl rfl (by kernel_rfl) ?_; intro a0 B; have p := Mem.start w Z hZ
 refine sqB B p [] [] [] ?_; intro ap C
 have q : Fr 35 [] [⟨0, [], i6 u0⟩, ⟨1, [], pt cb1 co2⟩, ⟨2, [], pt cb4 co5⟩, ⟨3, [], pt cb7 co8⟩, ⟨4, [], pt cb13 co14⟩, ⟨5, [], pt cb16 co17⟩] ap := C.reg
 refine sqQH mixed (by kernel_rfl) p ?_; intro aq D
 refine qz_ q hP3 0 (i6 u1) rfl ?_; intro aU u
 refine qz_ u hP6 0 (i6 u2) rfl ?_; intro aV v
 refine qu_ v (.agg (e34Dg u3).toArray) (fun v30 hC => lza v hC.fz hP9 0 (g := []) (m := 5) (vs := (e34Dg u3)) rfl (by kernel_rfl) (by kernel_rfl) (by kernel_rfl) (by kernel_rfl) rfl) ?_; intro aW E
 refine qcl E (i6 (dlongS u3)) 81 #[.agg (e34Dg u3).toArray] (nog rfl _) rfl (by kernel_rfl) (fun _ => by kernel_rfl) (qfc fun w hC => dlong_fun u3 _ _ hC.fz) ?_; intro aX F
 refine q1 F 15 (i6 (w64 (u2 * (dlongS u3)))) ?_; intro aY G
 refine q1 G 16 (i6 (w64 (u1 + (w64 (u2 * (dlongS u3)))))) ?_; intro aZ H
 refine q1 H 8 (i6 (w64 (u1 + (w64 (u2 * (dlongS u3)))))) ?_; intro a1 I
 refine qnl (D _ ?_); intro a2 h
 refine s_ (sqH ?_); intro ar J
 refine z1 I h 17 hP15 0 (.slice ao10 u4.length cap11) rfl ?_; intro a3 L
 refine z1 L h 18 hP18 0 (i6 u5) rfl ?_; intro a4 M
 obtain ⟨au, av⟩ := hp
 refine slH M (T := tyTask) (xs := u4) hs12 u5 au (k' := .i64) (e := 34) (bytes := 40) (nog rfl _) rfl (by kernel_rfl) rfl (by kernel_rfl) (by kernel_rfl) (by kernel_rfl) ?_; intro i j a5 a6 aw N
 refine bt N h 2 [] [] [(20, i6 ((u4.take u5.toNat).length : Int)), (21, i6 0)] ?_; intro O P
 apply J
 apply b_
 have Q : Fr 35 [] [⟨0, [], i6 u0⟩, ⟨8, [], i6 (w64 (u1 + (w64 (u2 * (dlongS u3)))))⟩, ⟨19, [], .slice i (u4.take u5.toNat).length j⟩, ⟨20, [], i6 ((u4.take u5.toNat).length : Int)⟩, ⟨21, [], i6 0⟩] O := P.reg
 obtain ⟨ax, ay, az, aA⟩ := av
 refine lp (ι := Int × Int) (fun s => [⟨0, [], i6 u0⟩, ⟨8, [], i6 s.1⟩, ⟨19, [], .slice i (u4.take u5.toNat).length j⟩, ⟨20, [], i6 ((u4.take u5.toNat).length : Int)⟩, ⟨21, [], i6 s.2⟩]) (fun s => []) (fun s => Z) (fun s => ax s.1 s.2) (fun s => ay s.1 s.2) ⟨w64 (u1 + (w64 (u2 * (dlongS u3)))), 0⟩ az (by exact Q.region (by kernel_rfl) (by kernel_rfl)) (by exact h) ?_
 rintro ⟨c, d⟩ aB aC aD S U
 have n := aA c d aB
 refine sqB S U [] [] [(22, .bool (decide (d < ((u4.take u5.toNat).length : Int))))] ?_; intro a7 l
 apply s_
 refine cd l (t := decide (d < ((u4.take u5.toNat).length : Int))) (by kernel_rfl) (fun x => ?_) (fun x => ?_)
 · -- yes
  have aE := n.1 x
  refine k_ (s_ (b_ (sqH ?_))); intro aF W
  obtain ⟨aG, X⟩ := aE
  refine ix_ l aw d aG .i64 34 40 ?_; intro a8 a9 aH a ba aI aJ aK Y
  have aL := X a aI
  obtain rfl : aH = ((e34Dg a) : List Value) := aK
  refine z2 Y U 24 aJ 0 5 (e34Dg a) rfl ?_; intro bb aa
  refine nw aa U pb [i6 0, i6 0, i6 0, i6 0, i6 0] 34 ?_; intro o aM bc y ab
  refine sx y ab 0 (e34Dg a) 0 ?_; intro aN ac
  have ad : Mem w.heap.size [] w Z [.row o (e34Dg a) 34] Z aN := ac
  apply W
  have ae : Fr 35 [] [⟨0, [], i6 u0⟩, ⟨8, [], i6 c⟩, ⟨10, [], pt o 0⟩, ⟨19, [], .slice i (u4.take u5.toNat).length j⟩, ⟨20, [], i6 ((u4.take u5.toNat).length : Int)⟩, ⟨21, [], i6 d⟩] aM := y.reg
  refine qrgH mixed (by kernel_rfl) ad ?_; intro aO af
  refine q1 ae 25 (i6 c) ?_; intro bd z
  refine qu_ z (.agg (e34Dg a).toArray) (fun v111 hC => lda z hC 0 (g := []) (b := o) (off := 0) (k := 5) (cs := (e34Dg a)) (vs := (e34Dg a)) (ty := 34) rfl (by kernel_rfl) (by kernel_rfl) (by kernel_rfl) (by kernel_rfl) (by kernel_rfl) rfl) ?_; intro be ag
  refine q1 ag 27 (i6 u0) ?_; intro bf ah
  obtain ⟨aP, ai⟩ := aL
  refine qcl ah (i6 (dasksS a u0 true)) 84 #[.agg (e34Dg a).toArray, i6 u0, .bool true] (nog rfl _) rfl (by kernel_rfl) (fun _ => by kernel_rfl) (qfc fun w hC => dasks_fun a u0 true aP _ _ hC.fz) ?_; intro bg A
  refine qu_ A (.agg (e34Dg a).toArray) (fun v122 hC => lda A hC 0 (g := []) (b := o) (off := 0) (k := 5) (cs := (e34Dg a)) (vs := (e34Dg a)) (ty := 34) rfl (by kernel_rfl) (by kernel_rfl) (by kernel_rfl) (by kernel_rfl) (by kernel_rfl) rfl) ?_; intro bh aj
  refine qcl aj (i6 (dlongS a)) 81 #[.agg (e34Dg a).toArray] (nog rfl _) rfl (by kernel_rfl) (fun _ => by kernel_rfl) (qfc fun w hC => dlong_fun a _ _ hC.fz) ?_; intro bi ak
  refine q1 ak 31 (i6 (w64 ((dasksS a u0 true) * (dlongS a)))) ?_; intro bj al
  refine q1 al 32 (i6 (w64 (c + (w64 ((dasksS a u0 true) * (dlongS a)))))) ?_; intro bk am
  refine q1 am 8 (i6 (w64 (c + (w64 ((dasksS a u0 true) * (dlongS a)))))) ?_; intro bl an
  refine qnl (af _ ?_); intro bm ao
  refine j_ (t_ (rgB an ao [] [] [(21, i6 (w64 (d + 1)))] ?_)); intro bn aQ
  exact d_ ⟨⟨w64 (c + (w64 ((dasksS a u0 true) * (dlongS a)))), w64 (d + 1)⟩, ai.1, ai.2, (aQ.region (by kernel_rfl) (by kernel_rfl)).anyβ _ (by kernel_rfl), ao.kp⟩
 · -- no
  have aR := n.2 x
  refine x_ (y_ (y_ (z_ (t_ (sqB l U [] [] [(7, i6 c)] ?_))))); intro bo aS
  exact r_ (ra1 aS (i6 c) ⟨c, rfl, aR, U.below⟩)

end Go.Proofs.Ytginlmgkimfjmaa
set_option linter.unusedVariables false
set_option linter.unusedSimpArgs false
set_option linter.defProp false
set_option maxRecDepth 100000
set_option maxHeartbeats 0
namespace Go.Proofs.Ytginlmgkimfjmaa
open Go.Sy Go.RowKit
abbrev e34Dh (X : Task) : List Value := [i6 X.ID, i6 X.Bytes, i6 X.Every, i6 X.Late, i6 X.Jitter]
def dtasks_fun   (Z : Fz) (w : World)  (hZ : Z.on w) := fc_ (dtasks_walk   Z w  hZ (dtasks_ok ))
def dw1_fun (u0 : Int) (u1 : Int) (u2 : List Task) (u3 : Int) (hpre : (0 ≤ u3 ∧ u3 < (u2.length : Int)) ∧ (∀ o ∈ u2, o.Every ≠ 0) ∧ u2.length ≤ 1000000) (cb1 co2 : Nat) (cb7 co8 : Nat) (ao4 : Option Addr) (cap5 : Nat) (cb10 co11 : Nat) (Z : Fz) (w : World) (hP3 : PtR Z cb1 co2 [i6 u1]) (hP9 : PtR Z cb7 co8 [.slice ao4 u2.length cap5]) (hs6 : SlR tyTask Z ao4 cap5 u2) (hP12 : PtR Z cb10 co11 [i6 u3]) (hZ : Z.on w) := f_ (dw1_walk u0 u1 u2 u3 cb1 co2 cb7 co8 ao4 cap5 cb10 co11 Z w hP3 hP9 hs6 hP12 hZ (dw1_ok u0 u1 u2 u3 hpre))
def dw2_fun (u0 : Int) (u1 : Int) (u2 : Int) (u3 : Task) (u4 : List Task) (u5 : Int) (hpre : (0 ≤ u5 ∧ u5 < (u4.length : Int)) ∧ (∀ o ∈ u4, o.Every ≠ 0) ∧ u4.length ≤ 1000000) (cb1 co2 : Nat) (cb4 co5 : Nat) (cb7 co8 : Nat) (cb13 co14 : Nat) (ao10 : Option Addr) (cap11 : Nat) (cb16 co17 : Nat) (Z : Fz) (w : World) (hP3 : PtR Z cb1 co2 [i6 u1]) (hP6 : PtR Z cb4 co5 [i6 u2]) (hP9 : PtR Z cb7 co8 [i6 u3.ID, i6 u3.Bytes, i6 u3.Every, i6 u3.Late, i6 u3.Jitter]) (hP15 : PtR Z cb13 co14 [.slice ao10 u4.length cap11]) (hs12 : SlR tyTask Z ao10 cap11 u4) (hP18 : PtR Z cb16 co17 [i6 u5]) (hZ : Z.on w) := f_ (dw2_walk u0 u1 u2 u3 u4 u5 cb1 co2 cb4 co5 cb7 co8 cb13 co14 ao10 cap11 cb16 co17 Z w hP3 hP6 hP9 hP15 hs12 hP18 hZ (dw2_ok u0 u1 u2 u3 u4 u5 hpre))
theorem dworst_walk (u0 : List Task) (u1 : Int) (ao1 : Option Addr) (cap2 : Nat) (Z : Fz) (w : World) (hs3 : SlR tyTask Z ao1 cap2 u0) (hZ : Z.on w) {K : Int → Prop} (hp : dworst_vc u0 u1 K) : Calls Try.prog 48 #[.slice ao1 u0.length cap2, i6 u1] w fun e w' => ∃ r : Int, e = .returned (i6 r) ∧ K r ∧ Below w.heap.size w w' := by
 refine enter0 Try.func48 rfl rfl (by kernel_rfl) ?_; intro a0 aB; have aC := Mem.start w Z hZ
 have cm := hp (hs3.small)
 refine sqH ?_; intro cn aD
 refine nw aB aC pb [.slice ao1 u0.length cap2] 32 ?_; intro j a7 dD aE aF
 refine nw aE aF pb [i6 u1] 3 ?_; intro h dE dF aG O
 refine s1 aG 4 (i6 0) ?_; intro dG aH
 apply aD
 refine sqH ?_; intro co aI
 refine bt aH O 2 [1, 0] [] [(13, .slice ao1 u0.length cap2), (14, i6 u1)] ?_; intro dH aJ
 obtain ⟨cp, aK⟩ := cm
 refine ix_ aJ hs3 u1 cp .i64 34 40 ?_; intro dI dJ cq a dK cr q ct aL
 have cu := aK a cr
 obtain rfl : cq = ((e34Dh a) : List Value) := ct
 refine z2 aL O 16 q 0 5 (e34Dh a) rfl ?_; intro dL aM
 refine nw aM O pb [i6 0, i6 0, i6 0, i6 0, i6 0] 34 ?_; intro i dM dN aa aN
 refine sx aa aN 0 (e34Dh a) 0 ?_; intro cv aO
 have aP : Mem w.heap.size [] w Z [.row i (e34Dh a) 34, .row h [i6 u1] 3, .row j [.slice ao1 u0.length cap2] 32] Z cv := aO
 apply aI
 refine sqH ?_; intro cw aQ
 refine nw aa aP pb [i6 0] 3 ?_; intro l dO dP ab aR
 refine sx ab aR 0 [i6 0] 0 ?_; intro cx aS
 have P : Mem w.heap.size [] w Z [.row l [i6 0] 3, .row i (e34Dh a) 34, .row h [i6 u1] 3, .row j [.slice ao1 u0.length cap2] 32] Z cx := aS
 apply aQ
 refine s_ (sqH ?_); intro cy aT
 refine bt ab P 3 [3, 2] [] [(17, .slice ao1 u0.length cap2), (19, i6 (w64 (u1 + 1)))] ?_; intro dQ aU
 obtain ⟨cz, cA⟩ := cu
 refine slL aU (T := tyTask) (xs := u0) hs3 (w64 (u1 + 1)) cz (k := .i64) (e := 34) (bytes := 40) (nog rfl _) rfl (by kernel_rfl) rfl (by kernel_rfl) (by kernel_rfl) (by kernel_rfl) ?_; intro F G dR dS u aV
 refine bt aV P 2 [] [] [(21, i6 ((u0.drop (w64 (u1 + 1)).toNat).length : Int)), (22, i6 0)] ?_; intro aW aX
 apply aT
 apply b_
 have aY : Fr 69 [] [⟨2, [], pt j 0⟩, ⟨3, [], pt h 0⟩, ⟨5, [], pt i 0⟩, ⟨6, [], pt l 0⟩, ⟨20, [], .slice F (u0.drop (w64 (u1 + 1)).toNat).length G⟩, ⟨21, [], i6 ((u0.drop (w64 (u1 + 1)).toNat).length : Int)⟩, ⟨22, [], i6 0⟩] aW := aX.reg
 obtain ⟨cB, cC, cD, cE⟩ := cA
 refine lp (ι := Int × Int) (fun s => [⟨2, [], pt j 0⟩, ⟨3, [], pt h 0⟩, ⟨5, [], pt i 0⟩, ⟨6, [], pt l 0⟩, ⟨20, [], .slice F (u0.drop (w64 (u1 + 1)).toNat).length G⟩, ⟨21, [], i6 ((u0.drop (w64 (u1 + 1)).toNat).length : Int)⟩, ⟨22, [], i6 s.1⟩]) (fun s => [.row l [i6 s.2] 3, .row i (e34Dh a) 34, .row h [i6 u1] 3, .row j [.slice ao1 u0.length cap2] 32]) (fun s => Z) (fun s => cB s.1 s.2) (fun s => cC s.1 s.2) ⟨0, 0⟩ cD (by exact aY.region (by kernel_rfl) (by kernel_rfl)) (by exact P) ?_
 rintro ⟨y, c⟩ cF cG Q a1 a2
 have R := cE y c cF
 refine sqB a1 a2 [] [] [(23, .bool (decide (y < ((u0.drop (w64 (u1 + 1)).toNat).length : Int))))] ?_; intro cH I
 apply s_
 refine cd I (t := decide (y < ((u0.drop (w64 (u1 + 1)).toNat).length : Int))) (by kernel_rfl) (fun ac => ?_) (fun ac => ?_)
 · -- yes
  have cI := R.1 ac
  refine k_ (s_ (b_ (sqH ?_))); intro cJ a4
  obtain ⟨cK, a5⟩ := cI
  refine ix_ I u y cK .i64 34 40 ?_; intro dT dU cL f dV cM cN cO a6
  have a8 := a5 f cM
  obtain rfl : cL = ((e34Dh f) : List Value) := cO
  refine z2 a6 a2 25 cN 0 5 (e34Dh f) rfl ?_; intro dW a9
  refine nw a9 a2 pb [i6 0, i6 0, i6 0, i6 0, i6 0] 34 ?_; intro S cP dX ad ba
  refine sx ad ba 0 (e34Dh f) 0 ?_; intro cQ bb
  have bc : Mem w.heap.size [] w Z [.row S (e34Dh f) 34, .row l [i6 c] 3, .row i (e34Dh a) 34, .row h [i6 u1] 3, .row j [.slice ao1 u0.length cap2] 32] Z cQ := bb
  apply a4
  have bd : Fr 69 [] [⟨2, [], pt j 0⟩, ⟨3, [], pt h 0⟩, ⟨5, [], pt i 0⟩, ⟨6, [], pt l 0⟩, ⟨8, [], pt S 0⟩, ⟨20, [], .slice F (u0.drop (w64 (u1 + 1)).toNat).length G⟩, ⟨21, [], i6 ((u0.drop (w64 (u1 + 1)).toNat).length : Int)⟩, ⟨22, [], i6 y⟩] cP := ad.reg
  refine rgS mixed bc [(0, true), (1, true), (2, false), (3, true), (4, false)] [4] [1, 0] [.row l [i6 c] 3, .row S (e34Dh f) 34] ?_
  intro cR be dY ae
  have cT := Fz.le.refl Z
  refine cS bd 2 [0, 1] [] [(26, i6 c), (27, .agg (e34Dh f).toArray)] ?_; intro dZ bf
  refine eS rfl ?_; intro cU bg
  refine fc bf ae (dlong_fun f _ _ ae.fz) ?_; intro d0 d1 bh af
  refine nl (qnI (bg _ _ (af.cst cT [1, 0]) ?_))
  refine cS bh 1 [] [] [(29, i6 (max c (dlongS f)))] ?_; intro d2 ag
  refine eL rfl ?_; intro cV bi
  refine sx ag af 1 [i6 (max c (dlongS f))] 0 ?_; intro cW bj
  have bk : Mem w.heap.size [] w Z [.row S (e34Dh f) 34, .row l [i6 (max c (dlongS f))] 3, .row i (e34Dh a) 34, .row h [i6 u1] 3, .row j [.slice ao1 u0.length cap2] 32] Z cW := bj
  refine nl (qnI (bi _ _ ?_))
  refine nS (be _ _ ?_)
  refine j_ (t_ (rgB ag bk [] [] [(22, i6 (w64 (y + 1)))] ?_)); intro d3 cX
  exact d_ ⟨⟨w64 (y + 1), max c (dlongS f)⟩, a8.1, a8.2, (cX.region (by kernel_rfl) (by kernel_rfl)).anyβ _ (by kernel_rfl), bk.kp⟩
 · -- no
  have cY := R.2 ac
  refine x_ (y_ (y_ (z_ (t_ ?_))))
  have ah : Fr 69 [] [⟨2, [], pt j 0⟩, ⟨3, [], pt h 0⟩, ⟨5, [], pt i 0⟩, ⟨6, [], pt l 0⟩] cH := I.reg
  obtain ⟨cZ, U, bl, v⟩ := a2.freezeRow 0 rfl
  replace hs3 := hs3.mono U
  have c0 : Mem w.heap.size [] w Z [.row i (e34Dh a) 34, .row h [i6 u1] 3, .row j [.slice ao1 u0.length cap2] 32] cZ Q := bl
  obtain ⟨c1, J, bm, D⟩ := c0.freezeRow 2 rfl
  replace hs3 := hs3.mono J
  replace v := v.mono J
  have c2 : Mem w.heap.size [] w Z [.row i (e34Dh a) 34, .row h [i6 u1] 3] c1 Q := bm
  obtain ⟨c3, E, bn, V⟩ := c2.freezeRow 1 rfl
  replace hs3 := hs3.mono E
  replace v := v.mono E
  replace D := D.mono E
  have bo : Mem w.heap.size [] w Z [.row i (e34Dh a) 34] c3 Q := bn
  refine sqQH mixed (by kernel_rfl) bo ?_; intro c4 bp
  refine qz_ ah v 0 (i6 c) rfl ?_; intro d4 ai
  refine qu_ ai (.agg (e34Dh a).toArray) (fun v161 hC => lda ai hC 0 (g := []) (b := i) (off := 0) (k := 5) (cs := (e34Dh a)) (vs := (e34Dh a)) (ty := 34) rfl (by kernel_rfl) (by kernel_rfl) (by kernel_rfl) (by kernel_rfl) (by kernel_rfl) rfl) ?_; intro d5 bq
  refine qcl bq (i6 (dlongS a)) 81 #[.agg (e34Dh a).toArray] (nog rfl _) rfl (by kernel_rfl) (fun _ => by kernel_rfl) (qfc fun w hC => dlong_fun a _ _ hC.fz) ?_; intro d6 br
  refine q1 br 34 (i6 (w64 (c + (dlongS a)))) ?_; intro d7 bs
  refine q1 bs 35 (.func (.func 83) #[] #[pt l 0, pt j 0, pt h 0]) ?_; intro d8 bu
  obtain ⟨c5, c6⟩ := cY
  obtain ⟨c7, W⟩ := c6
  refine qcl bu (i6 (dfixS (w64 (c + (dlongS a))) (fun x0 => dw1S x0 c u0 u1))) 82 #[i6 (w64 (c + (dlongS a))), .func (.func 83) #[] #[pt l 0, pt j 0, pt h 0]] (nog rfl _) rfl (by kernel_rfl) (fun _ => by kernel_rfl) (qfc fun w hC => dfix_fun (w64 (c + (dlongS a))) (fun x0 => dw1S x0 c u0 u1) c5 83 #[pt l 0, pt j 0, pt h 0] _ _ (fun Z1 w1 h1 h2 x0 => dw1_fun x0 c u0 u1 c7 l 0 j 0 ao1 cap2 h 0 Z1 w1 (v.mono h1) (D.mono h1) (SlR.mono hs3 h1) (V.mono h1) h2) (fun _ _ => by kernel_rfl) hC.fz) ?_; intro d9 bv
  refine q1 bv 9 (i6 (dfixS (w64 (c + (dlongS a))) (fun x0 => dw1S x0 c u0 u1))) ?_; intro ea bw
  refine qnl (bp _ ?_); intro eb z
  refine s_ (sqB bw z [] [] [(38, .bool (decide ((dfixS (w64 (c + (dlongS a))) (fun x0 => dw1S x0 c u0 u1)) < 0)))] ?_); intro ec L
  refine cd L (t := decide ((dfixS (w64 (c + (dlongS a))) (fun x0 => dw1S x0 c u0 u1)) < 0)) (by kernel_rfl) (fun aj => ?_) (fun aj => ?_)
  · -- yes
   have c8 := W.1 aj
   refine sqB L z [] [] [(4, i6 (-1))] ?_; intro ed c9
   exact r_ (h_ (ra1 c9 (i6 (-1)) ⟨-1, rfl, c8, z.below⟩))
  · -- no
   have da := W.2 aj
   refine k_ (sqB L z [] [] [(10, i6 0)] ?_); intro ee bx
   refine s_ (sqH ?_); intro db bz
   refine bt bx z 2 [0] [] [(39, .agg (e34Dh a).toArray), (40, i6 (dfixS (w64 (c + (dlongS a))) (fun x0 => dw1S x0 c u0 u1)))] ?_; intro ef bA
   obtain ⟨dc, dd⟩ := da
   refine fc bA z (dasks_fun a (dfixS (w64 (c + (dlongS a))) (fun x0 => dw1S x0 c u0 u1)) false dc _ _ z.fz) ?_; intro eg de bB df
   refine s1 bB 42 (i6 0) ?_; intro bC bD
   apply bz
   apply b_
   obtain ⟨ak, A, bE, dg⟩ := df.freezeRow 0 rfl
   replace hs3 := hs3.mono A
   replace v := v.mono A
   replace D := D.mono A
   replace V := V.mono A
   have bF : Mem w.heap.size [] w Z [] ak de := bE
   have bG : Fr 69 [] [⟨2, [], pt j 0⟩, ⟨3, [], pt h 0⟩, ⟨5, [], pt i 0⟩, ⟨6, [], pt l 0⟩, ⟨10, [], i6 0⟩, ⟨41, [], i6 (dasksS a (dfixS (w64 (c + (dlongS a))) (fun x0 => dw1S x0 c u0 u1)) false)⟩, ⟨42, [], i6 0⟩] bC := bD.reg
   obtain ⟨dh, di, dj, dk⟩ := dd
   refine lp (ι := Int × Int × Fz) (fun s => [⟨2, [], pt j 0⟩, ⟨3, [], pt h 0⟩, ⟨5, [], pt i 0⟩, ⟨6, [], pt l 0⟩, ⟨10, [], i6 s.1⟩, ⟨41, [], i6 (dasksS a (dfixS (w64 (c + (dlongS a))) (fun x0 => dw1S x0 c u0 u1)) false)⟩, ⟨42, [], i6 s.2.1⟩]) (fun s => []) (fun s => s.2.2) (fun s => dh s.1 s.2.1 ∧ Fz.le ak s.2.2) (fun s => di s.1 s.2.1) ⟨0, 0, ak⟩ ⟨dj, Fz.le.refl _⟩ (by exact bG.region (by kernel_rfl) (by kernel_rfl)) (by exact bF) ?_
   rintro ⟨n, d, bI⟩ ⟨dl, p⟩ dm dn bJ bK
   have X := dk n d dl
   have al := hs3.mono p
   have Y := v.mono p
   have am := D.mono p
   have an := V.mono p
   have B := dg.mono p
   refine sqB bJ bK [] [] [(43, .bool (decide (d < (dasksS a (dfixS (w64 (c + (dlongS a))) (fun x0 => dw1S x0 c u0 u1)) false))))] ?_; intro ei N
   apply s_
   refine cd N (t := decide (d < (dasksS a (dfixS (w64 (c + (dlongS a))) (fun x0 => dw1S x0 c u0 u1)) false))) (by kernel_rfl) (fun ao => ?_) (fun ao => ?_)
   · -- yes
    have dp := X.1 ao
    refine k_ (s_ (b_ (sqH ?_))); intro dq bO
    refine s1 N 44 (i6 d) ?_; intro ej bP
    refine nw bP bK pb [i6 0] 3 ?_; intro C dr ek ap bQ
    refine sx ap bQ 0 [i6 d] 0 ?_; intro bR bS
    have ds : Mem w.heap.size [] w Z [.row C [i6 d] 3] bI bR := bS
    apply bO
    have aq : Fr 69 [] [⟨2, [], pt j 0⟩, ⟨3, [], pt h 0⟩, ⟨5, [], pt i 0⟩, ⟨6, [], pt l 0⟩, ⟨10, [], i6 n⟩, ⟨11, [], pt C 0⟩, ⟨41, [], i6 (dasksS a (dfixS (w64 (c + (dlongS a))) (fun x0 => dw1S x0 c u0 u1)) false)⟩, ⟨42, [], i6 d⟩] dr := ap.reg
    obtain ⟨bT, x, bU, ar⟩ := ds.freezeRow 0 rfl
    replace al := al.mono x
    replace Y := Y.mono x
    replace am := am.mono x
    replace an := an.mono x
    replace B := B.mono x
    replace p := p.mono x
    have bV : Mem w.heap.size [] w Z [] bT bR := bU
    refine sqQH mixed (by kernel_rfl) bV ?_; intro dt bW
    refine qz_ aq Y 0 (i6 c) rfl ?_; intro el au
    refine qz_ au ar 0 (i6 d) rfl ?_; intro em av
    refine qu_ av (.agg (e34Dh a).toArray) (fun v267 hC => lza av hC.fz B 0 (g := []) (m := 5) (vs := (e34Dh a)) rfl (by kernel_rfl) (by kernel_rfl) (by kernel_rfl) (by kernel_rfl) rfl) ?_; intro en bX
    refine qcl bX (i6 (dlongS a)) 81 #[.agg (e34Dh a).toArray] (nog rfl _) rfl (by kernel_rfl) (fun _ => by kernel_rfl) (qfc fun w hC => dlong_fun a _ _ hC.fz) ?_; intro eo bY
    refine q1 bY 49 (i6 (w64 (d * (dlongS a)))) ?_; intro ep bZ
    refine q1 bZ 50 (i6 (w64 (c + (w64 (d * (dlongS a)))))) ?_; intro eq b0
    refine q1 b0 51 (.func (.func 85) #[] #[pt l 0, pt C 0, pt i 0, pt j 0, pt h 0]) ?_; intro er b1
    obtain ⟨du, dv⟩ := dp
    obtain ⟨dw, b2⟩ := dv
    refine qcl b1 (i6 (dfixS (w64 (c + (w64 (d * (dlongS a))))) (fun x0 => dw2S x0 c d a u0 u1))) 82 #[i6 (w64 (c + (w64 (d * (dlongS a))))), .func (.func 85) #[] #[pt l 0, pt C 0, pt i 0, pt j 0, pt h 0]] (nog rfl _) rfl (by kernel_rfl) (fun _ => by kernel_rfl) (qfc fun w hC => dfix_fun (w64 (c + (w64 (d * (dlongS a))))) (fun x0 => dw2S x0 c d a u0 u1) du 85 #[pt l 0, pt C 0, pt i 0, pt j 0, pt h 0] _ _ (fun Z1 w1 h1 h2 x0 => dw2_fun x0 c d a u0 u1 dw l 0 C 0 i 0 j 0 ao1 cap2 h 0 Z1 w1 (Y.mono h1) (ar.mono h1) (B.mono h1) (am.mono h1) (SlR.mono al h1) (an.mono h1) h2) (fun _ _ => by kernel_rfl) hC.fz) ?_; intro es b3
    refine q1 b3 12 (i6 (dfixS (w64 (c + (w64 (d * (dlongS a))))) (fun x0 => dw2S x0 c d a u0 u1))) ?_; intro dx b4
    refine qnl (bW _ ?_); intro et b5
    have b7 : Fr 69 [] [⟨2, [], pt j 0⟩, ⟨3, [], pt h 0⟩, ⟨5, [], pt i 0⟩, ⟨6, [], pt l 0⟩, ⟨10, [], i6 n⟩, ⟨11, [], pt C 0⟩, ⟨12, [], i6 (dfixS (w64 (c + (w64 (d * (dlongS a))))) (fun x0 => dw2S x0 c d a u0 u1))⟩, ⟨41, [], i6 (dasksS a (dfixS (w64 (c + (dlongS a))) (fun x0 => dw1S x0 c u0 u1)) false)⟩, ⟨42, [], i6 d⟩] dx := b4.reg
    refine qrgH mixed (by kernel_rfl) b5 ?_; intro dy b8
    refine q1 b7 53 (i6 n) ?_; intro eu b9
    refine q1 b9 54 (pt i 4) ?_; intro ev aw
    refine qz_ aw B 4 (i6 a.Jitter) rfl ?_; intro ew ca
    refine q1 ca 56 (i6 (dfixS (w64 (c + (w64 (d * (dlongS a))))) (fun x0 => dw2S x0 c d a u0 u1))) ?_; intro ex cb
    refine q1 cb 57 (i6 (w64 (a.Jitter + (dfixS (w64 (c + (w64 (d * (dlongS a))))) (fun x0 => dw2S x0 c d a u0 u1))))) ?_; intro ey ax
    refine qz_ ax ar 0 (i6 d) rfl ?_; intro ez cc
    refine q1 cc 59 (pt i 2) ?_; intro eA ay
    refine qz_ ay B 2 (i6 a.Every) rfl ?_; intro eB ce
    refine q1 ce 61 (i6 (w64 (d * a.Every))) ?_; intro eC cf
    refine q1 cf 62 (i6 (w64 ((w64 (a.Jitter + (dfixS (w64 (c + (w64 (d * (dlongS a))))) (fun x0 => dw2S x0 c d a u0 u1)))) - (w64 (d * a.Every))))) ?_; intro eD az
    refine qu_ az (.agg (e34Dh a).toArray) (fun v326 hC => lza az hC.fz B 0 (g := []) (m := 5) (vs := (e34Dh a)) rfl (by kernel_rfl) (by kernel_rfl) (by kernel_rfl) (by kernel_rfl) rfl) ?_; intro eE cg
    refine qcl cg (i6 (dlongS a)) 81 #[.agg (e34Dh a).toArray] (nog rfl _) rfl (by kernel_rfl) (fun _ => by kernel_rfl) (qfc fun w hC => dlong_fun a _ _ hC.fz) ?_; intro eF ch
    refine q1 ch 65 (i6 (w64 ((w64 ((w64 (a.Jitter + (dfixS (w64 (c + (w64 (d * (dlongS a))))) (fun x0 => dw2S x0 c d a u0 u1)))) - (w64 (d * a.Every)))) + (dlongS a)))) ?_; intro eG aA
    refine qu_ aA (i6 (max n (w64 ((w64 ((w64 (a.Jitter + (dfixS (w64 (c + (w64 (d * (dlongS a))))) (fun x0 => dw2S x0 c d a u0 u1)))) - (w64 (d * a.Every)))) + (dlongS a))))) (fun v335 hC => re_ (p0 aA (r := .ok (.value (i6 (if n < (w64 ((w64 ((w64 (a.Jitter + (dfixS (w64 (c + (w64 (d * (dlongS a))))) (fun x0 => dw2S x0 c d a u0 u1)))) - (w64 (d * a.Every)))) + (dlongS a))) then (w64 ((w64 ((w64 (a.Jitter + (dfixS (w64 (c + (w64 (d * (dlongS a))))) (fun x0 => dw2S x0 c d a u0 u1)))) - (w64 (d * a.Every)))) + (dlongS a))) else n))) v335) (by kernel_rfl)) (by rw [imax])) ?_; intro eH ci
    refine q1 ci 10 (i6 (max n (w64 ((w64 ((w64 (a.Jitter + (dfixS (w64 (c + (w64 (d * (dlongS a))))) (fun x0 => dw2S x0 c d a u0 u1)))) - (w64 (d * a.Every)))) + (dlongS a))))) ?_; intro dz cj
    refine qnl (b8 _ ?_); intro eI ck
    refine j_ (t_ ?_)
    have cl : Fr 69 [] [⟨2, [], pt j 0⟩, ⟨3, [], pt h 0⟩, ⟨5, [], pt i 0⟩, ⟨6, [], pt l 0⟩, ⟨10, [], i6 (max n (w64 ((w64 ((w64 (a.Jitter + (dfixS (w64 (c + (w64 (d * (dlongS a))))) (fun x0 => dw2S x0 c d a u0 u1)))) - (w64 (d * a.Every)))) + (dlongS a))))⟩, ⟨41, [], i6 (dasksS a (dfixS (w64 (c + (dlongS a))) (fun x0 => dw1S x0 c u0 u1)) false)⟩, ⟨42, [], i6 d⟩] dz := cj.reg
    refine rgB cl ck [] [] [(42, i6 (w64 (d + 1)))] ?_; intro eJ dA
    exact d_ ⟨⟨max n (w64 ((w64 ((w64 (a.Jitter + (dfixS (w64 (c + (w64 (d * (dlongS a))))) (fun x0 => dw2S x0 c d a u0 u1)))) - (w64 (d * a.Every)))) + (dlongS a))), w64 (d + 1), bT⟩, ⟨b2.1, p⟩, b2.2, (dA.region (by kernel_rfl) (by kernel_rfl)).anyβ _ (by kernel_rfl), ck.kp⟩
   · -- no
    have dB := X.2 ao
    refine x_ (y_ (y_ (z_ (t_ (sqB N bK [] [] [(4, i6 n)] ?_))))); intro eK dC
    exact r_ (ra1 dC (i6 n) ⟨n, rfl, dB, bK.below⟩)

end Go.Proofs.Ytginlmgkimfjmaa
set_option linter.unusedVariables false
set_option linter.unusedSimpArgs false
set_option linter.defProp false
set_option maxRecDepth 100000
set_option maxHeartbeats 0
namespace Go.Proofs.Ytginlmgkimfjmaa
open Go.Sy Go.RowKit
abbrev e34Di (X : Task) : List Value := [i6 X.ID, i6 X.Bytes, i6 X.Every, i6 X.Late, i6 X.Jitter]
def dworst_fun (u0 : List Task) (u1 : Int) (hpre : dcheckS u0 = 0 ∧ 0 ≤ u1 ∧ u1 < (u0.length : Int)) (ao1 : Option Addr) (cap2 : Nat) (Z : Fz) (w : World) (hs3 : SlR tyTask Z ao1 cap2 u0) (hZ : Z.on w) := f_ (dworst_walk u0 u1 ao1 cap2 Z w hs3 hZ (dworst_ok2 u0 u1 hpre))
theorem dWorst_walk (u0 : List Task) (ao1 : Option Addr) (cap2 : Nat) (Z : Fz) (w : World) (hs3 : SlR tyTask Z ao1 cap2 u0) (hZ : Z.on w) {K : ((List Stop) × Int) → Prop} (hp : dWorst_vc u0 K) : Calls Try.prog 15 #[.slice ao1 u0.length cap2] w fun e w' => ∃ (r : (List Stop) × Int) (ao1001 : Option Addr) (cap1002 : Nat) (Z' : Fz), e = .returned (.tuple #[.slice ao1001 r.1.length cap1002, i6 r.2]) ∧ K r ∧ Mem w.heap.size [] w Z [.own tyStop 40 ao1001 cap1002 r.1] Z' w' := by
 refine enter0 Try.func15 rfl rfl (by kernel_rfl) ?_; intro a0 D; have m := Mem.start w Z hZ
 have n := hp (hs3.small)
 refine sqB D m [] [] [] ?_; intro a8 E
 refine s_ (sqH ?_); intro aw F
 refine s1 E 9 (.slice ao1 u0.length cap2) ?_; intro a3 G
 refine fc G m (dcheck_fun u0 ao1 cap2 _ _ hs3 m.fz) ?_; intro a4 H I h
 refine s1 I 4 (i6 (dcheckS u0)) ?_; intro a5 J
 apply F
 refine sqB J h [] [] [(12, .bool ((dcheckS u0) != 0))] ?_; intro a6 j
 refine cd j (t := (dcheckS u0) != 0) (by kernel_rfl) (fun q => ?_) (fun q => ?_)
 · -- yes
  have ax := n.1 q
  refine sqB j h [] [] [(2, .slice none 0 0), (3, i6 (dcheckS u0))] ?_; intro a7 ay
  refine r_ (h_ ?_)
  have az : Mem w.heap.size [] w Z [.own tyStop 40 none 0 ([] : List Stop)] Z H := h.addNil tyStop 40 (by decide)
  exact ra2 ay (.tuple #[.slice none ([] : List Stop).length 0, i6 (dcheckS u0)]) ⟨(([] : List Stop), (dcheckS u0)), none, 0, Z, rfl, ax, az.kp⟩
 · -- no
  have aA := n.2 q
  refine k_ (sqB j h [] [] [(5, .slice none 0 0)] ?_); intro a9 L
  refine s_ (sqB L h [] [] [(14, .slice ao1 u0.length cap2), (15, i6 (u0.length : Int)), (16, i6 0)] ?_); intro M N
  apply b_
  have O : Fr 39 [] [⟨0, [], .slice ao1 u0.length cap2⟩, ⟨5, [], .slice none 0 0⟩, ⟨14, [], .slice ao1 u0.length cap2⟩, ⟨15, [], i6 (u0.length : Int)⟩, ⟨16, [], i6 0⟩] M := N.reg
  have P : Mem w.heap.size [] w Z [.own tyStop 40 none 0 ([] : List Stop)] Z H := h.addNil tyStop 40 (by decide)
  have Q : Fr 39 [] [⟨0, [], .slice ao1 u0.length cap2⟩, ⟨5, [], .slice none ([] : List Stop).length 0⟩, ⟨14, [], .slice ao1 u0.length cap2⟩, ⟨15, [], i6 (u0.length : Int)⟩, ⟨16, [], i6 0⟩] M := O.reg
  obtain ⟨aB, aC, aD, aE⟩ := aA
  refine lp (ι := (List Stop) × Int × (Option Addr) × Nat) (fun s => [⟨0, [], .slice ao1 u0.length cap2⟩, ⟨5, [], .slice s.2.2.1 s.1.length s.2.2.2⟩, ⟨14, [], .slice ao1 u0.length cap2⟩, ⟨15, [], i6 (u0.length : Int)⟩, ⟨16, [], i6 s.2.1⟩]) (fun s => [.own tyStop 40 s.2.2.1 s.2.2.2 s.1]) (fun s => Z) (fun s => aB s.1 s.2.1) (fun s => aC s.1 s.2.1) ⟨([] : List Stop), 0, none, 0⟩ aD (by exact Q.region (by kernel_rfl) (by kernel_rfl)) (by exact P) ?_
  rintro ⟨d, a, f, g⟩ aF aG aH R S
  have o := aE d a aF
  refine sqB R S [] [] [(17, .bool (decide (a < (u0.length : Int))))] ?_; intro ba l
  apply s_
  refine cd l (t := decide (a < (u0.length : Int))) (by kernel_rfl) (fun u => ?_) (fun u => ?_)
  · -- yes
   have aI := o.1 u
   refine k_ (s_ (b_ (sqH ?_))); intro aJ V
   refine s1 l 18 (i6 a) ?_; intro bb W
   obtain ⟨aK, X⟩ := aI
   refine ix_ W hs3 a aK .i64 34 40 ?_; intro bc bd aL c be aM aN aO Y
   have aP := X c aM
   obtain rfl : aL = ((e34Di c) : List Value) := aO
   refine z2 Y S 20 aN 0 5 (e34Di c) rfl ?_; intro bf aa
   refine nw aa S pb [i6 0, i6 0, i6 0, i6 0, i6 0] 34 ?_; intro v bg bh ab ac
   refine s1 ab 6 (i6 a) ?_; intro bi y
   refine sx y ac 0 (e34Di c) 0 ?_; intro aQ ad
   have p : Mem w.heap.size [] w Z [.row v (e34Di c) 34, .own tyStop 40 f g d] Z aQ := ad
   apply V
   refine sqH ?_; intro aR ae
   refine bt y p 2 [] [] [(21, .slice ao1 u0.length cap2), (22, i6 a)] ?_; intro bj af
   obtain ⟨aS, aT⟩ := aP
   refine fc af p (dworst_fun u0 a aS ao1 cap2 _ _ hs3 p.fz) ?_; intro bk bl ag z
   refine s1 ag 8 (i6 (worstS u0 a)) ?_; intro aU ah
   apply ae
   have ai : Fr 39 [] [⟨0, [], .slice ao1 u0.length cap2⟩, ⟨5, [], .slice f d.length g⟩, ⟨7, [], pt v 0⟩, ⟨8, [], i6 (worstS u0 a)⟩, ⟨14, [], .slice ao1 u0.length cap2⟩, ⟨15, [], i6 (u0.length : Int)⟩, ⟨16, [], i6 a⟩] aU := ah.reg
   refine rgH ?_; intro aV aj
   refine bt ai z 11 [0] [] [(24, .slice f d.length g), (34, .agg #[i6 (worstS u0 a), .bool ((decide ((worstS u0 a) ≥ 0)) && (decide ((worstS u0 a) ≤ c.Late)))])] ?_; intro bm ak
   refine nw ak z (fun b => .slice (sm b) 1 1) [i6 (worstS u0 a), .bool ((decide ((worstS u0 a) ≥ 0)) && (decide ((worstS u0 a) ≤ c.Late)))] 40 ?_; intro al bn bo am A
   obtain ⟨aW, an⟩ := aT
   refine ap am A 2 (T := tyStop) (xs := d) (ys := [(⟨(worstS u0 a), (decide ((worstS u0 a) ≥ 0)) && (decide ((worstS u0 a) ≤ c.Late))⟩ : Stop)]) (ao := f) (cap := g) (ao2 := (sm al)) (cap2 := 1) (t := 35) (e := 40) (bytes := 16) (nog rfl _) rfl (by kernel_rfl) rfl (by kernel_rfl) (by kernel_rfl) (by kernel_rfl) rfl (Src.row A 0 rfl (RepAll.one (T := tyStop) (x := (⟨(worstS u0 a), (decide ((worstS u0 a) ≥ 0)) && (decide ((worstS u0 a) ≤ c.Late))⟩ : Stop)) rfl)) aW ?_; intro B C bp aX bq aq ar
   have au : Mem w.heap.size [] w Z [.row al [i6 (worstS u0 a), .bool ((decide ((worstS u0 a) ≥ 0)) && (decide ((worstS u0 a) ≤ c.Late)))] 40, .row v (e34Di c) 34, .own tyStop 40 B C (d ++ [(⟨(worstS u0 a), (decide ((worstS u0 a) ≥ 0)) && (decide ((worstS u0 a) ≤ c.Late))⟩ : Stop)])] Z aX := ar
   refine s1 aq 5 (.slice B (d ++ [(⟨(worstS u0 a), (decide ((worstS u0 a) ≥ 0)) && (decide ((worstS u0 a) ≤ c.Late))⟩ : Stop)]).length C) ?_; intro br av
   apply aj
   refine j_ (t_ (rgB av au [] [] [(16, i6 (w64 (a + 1)))] ?_)); intro bs aY
   exact d_ ⟨⟨d ++ [(⟨(worstS u0 a), (decide ((worstS u0 a) ≥ 0)) && (decide ((worstS u0 a) ≤ c.Late))⟩ : Stop)], w64 (a + 1), B, C⟩, an.1, an.2, (aY.region (by kernel_rfl) (by kernel_rfl)).anyβ _ (by kernel_rfl), au.kp⟩
  · -- no
   have aZ := o.2 u
   refine x_ (y_ (y_ (z_ (t_ (sqB l S [] [] [(2, .slice f d.length g), (3, i6 0)] ?_))))); intro bu a1
   exact r_ (ra2 a1 (.tuple #[.slice f d.length g, i6 0]) ⟨(d, 0), f, g, Z, rfl, aZ, S.kp⟩)

theorem stopeq_walk (u0 : List Stop) (u1 : List Stop) (ao1 : Option Addr) (cap2 : Nat) (ao4 : Option Addr) (cap5 : Nat) (Z : Fz) (w : World) (hs3 : SlR tyStop Z ao1 cap2 u0) (hs6 : SlR tyStop Z ao4 cap5 u1) (hZ : Z.on w) {K : Bool → Prop} (hp : stopeq_vc u0 u1 K) : Calls Try.prog 50 #[.slice ao1 u0.length cap2, .slice ao4 u1.length cap5] w fun e w' => ∃ r : Bool, e = .returned (.bool r) ∧ K r ∧ Below w.heap.size w w' := by
 refine enter0 Try.func50 rfl rfl (by kernel_rfl) ?_; intro a0 B; have f := Mem.start w Z hZ
 have n := hp (hs3.small) (hs6.small)
 refine sqB B f [] [] [] ?_; intro aF D
 refine s_ (sqB D f [] [] [(10, .bool ((u0.length : Int) != (u1.length : Int)))] ?_); intro aG i
 refine cd i (t := (u0.length : Int) != (u1.length : Int)) (by kernel_rfl) (fun u => ?_) (fun u => ?_)
 · -- yes
  have Y := n.1 u
  refine sqB i f [] [] [(4, .bool false)] ?_; intro aH aa
  exact r_ (h_ (ra1 aa (.bool false) ⟨false, rfl, Y, f.below⟩))
 · -- no
  have ab := n.2 u
  refine k_ (s_ (sqB i f [] [] [(12, i6 (u0.length : Int)), (13, i6 0)] ?_)); intro E F
  apply b_
  have G : Fr 26 [] [⟨0, [], .slice ao1 u0.length cap2⟩, ⟨1, [], .slice ao4 u1.length cap5⟩, ⟨12, [], i6 (u0.length : Int)⟩, ⟨13, [], i6 0⟩] E := F.reg
  obtain ⟨ac, ad, ae, af⟩ := ab
  refine lp (ι := Int) (fun s => [⟨0, [], .slice ao1 u0.length cap2⟩, ⟨1, [], .slice ao4 u1.length cap5⟩, ⟨12, [], i6 (u0.length : Int)⟩, ⟨13, [], i6 s⟩]) (fun s => []) (fun s => Z) (fun s => ac s) (fun s => ad s) 0 ae (by exact G.region (by kernel_rfl) (by kernel_rfl)) (by exact f) ?_
  rintro d ag ah ai I J
  have o := af d ag
  refine sqB I J [] [] [(14, .bool (decide (d < (u0.length : Int))))] ?_; intro aI j
  apply s_
  refine cd j (t := decide (d < (u0.length : Int))) (by kernel_rfl) (fun v => ?_) (fun v => ?_)
  · -- yes
   have aj := o.1 v
   refine k_ (s_ (b_ (sqB j J [] [] [(5, i6 d)] ?_))); intro ak M
   have N : Fr 26 [] [⟨0, [], .slice ao1 u0.length cap2⟩, ⟨1, [], .slice ao4 u1.length cap5⟩, ⟨5, [], i6 d⟩, ⟨12, [], i6 (u0.length : Int)⟩, ⟨13, [], i6 d⟩] ak := M.reg
   refine sqQH mixed (by kernel_rfl) J ?_; intro al O
   refine q1 N 16 (.slice ao1 u0.length cap2) ?_; intro aJ P
   refine q1 P 17 (i6 d) ?_; intro aK Q
   obtain ⟨am, R⟩ := aj
   refine qx_ Q hs3 d am .i64 40 16 ?_; intro aL aM an a aN ao ap aq x
   have ar := R a ao
   obtain rfl : an = ([i6 a.Wait, .bool a.Fits] : List Value) := aq
   refine qu_ x (.agg #[i6 a.Wait, .bool a.Fits]) (fun v81 hC => lza x hC.fz ap 0 (g := []) (m := 2) (vs := [i6 a.Wait, .bool a.Fits]) rfl (by kernel_rfl) (by kernel_rfl) (by kernel_rfl) (by kernel_rfl) rfl) ?_; intro aO S
   refine q1 S 20 (.slice ao4 u1.length cap5) ?_; intro aP U
   refine q1 U 21 (i6 d) ?_; intro aQ V
   obtain ⟨au, W⟩ := ar
   refine qx_ V hs6 d au .i64 40 16 ?_; intro aR aS av c aT aw ax ay y
   have p := W c aw
   obtain rfl : av = ([i6 c.Wait, .bool c.Fits] : List Value) := ay
   refine qu_ y (.agg #[i6 c.Wait, .bool c.Fits]) (fun v103 hC => lza y hC.fz ax 0 (g := []) (m := 2) (vs := [i6 c.Wait, .bool c.Fits]) rfl (by kernel_rfl) (by kernel_rfl) (by kernel_rfl) (by kernel_rfl) rfl) ?_; intro aU z
   refine qu_ z (.bool (!((a.Wait == c.Wait) && ((a.Fits == c.Fits) && true)))) (fun v106 hC => nes_run z (g := []) (xs := #[i6 a.Wait, .bool a.Fits]) (ys := #[i6 c.Wait, .bool c.Fits]) (b := (a.Wait == c.Wait) && ((a.Fits == c.Fits) && true)) rfl (by kernel_rfl) (by kernel_rfl) (by kernel_rfl) (by kernel_rfl) rfl) ?_; intro aV l
   refine qnl (O _ ?_); intro aW q
   refine cd l (t := !((a.Wait == c.Wait) && ((a.Fits == c.Fits) && true))) (by kernel_rfl) (fun A => ?_) (fun A => ?_)
   · -- yes
    have az := p.1 A
    refine sqB l q [] [] [(4, .bool false)] ?_; intro aX aA
    exact r_ (i_ (h_ (h_ (i_ (h_ (ra1 aA (.bool false) ⟨false, rfl, az, q.below⟩))))))
   · -- no
    have X := p.2 A
    refine l_ (j_ (t_ (rgB l q [] [] [(13, i6 (w64 (d + 1)))] ?_))); intro aY aB
    exact d_ ⟨w64 (d + 1), X.1, X.2, (aB.region (by kernel_rfl) (by kernel_rfl)).anyβ _ (by kernel_rfl), q.kp⟩
  · -- no
   have aC := o.2 v
   refine x_ (y_ (y_ (z_ (t_ (sqB j J [] [] [(4, .bool true)] ?_))))); intro aZ aD
   exact r_ (ra1 aD (.bool true) ⟨true, rfl, aC, J.below⟩)

end Go.Proofs.Ytginlmgkimfjmaa
set_option linter.unusedVariables false
set_option linter.unusedSimpArgs false
set_option linter.defProp false
set_option maxRecDepth 100000
set_option maxHeartbeats 0
namespace Go.Proofs.Ytginlmgkimfjmaa
open Go.Sy Go.RowKit
def dWorst_fun (u0 : List Task) (ao1 : Option Addr) (cap2 : Nat) (Z : Fz) (w : World) (hs3 : SlR tyTask Z ao1 cap2 u0) (hZ : Z.on w) := fc_ (dWorst_walk u0 ao1 cap2 Z w hs3 hZ (dWorst_ok u0))
def stopeq_fun (u0 : List Stop) (u1 : List Stop) (ao1 : Option Addr) (cap2 : Nat) (ao4 : Option Addr) (cap5 : Nat) (Z : Fz) (w : World) (hs3 : SlR tyStop Z ao1 cap2 u0) (hs6 : SlR tyStop Z ao4 cap5 u1) (hZ : Z.on w) := f_ (stopeq_walk u0 u1 ao1 cap2 ao4 cap5 Z w hs3 hs6 hZ (stopeq_ok u0 u1))
theorem delayed_walk   (Z : Fz) (w : World)  (hZ : Z.on w) {K : Bool → Prop} (hp : delayed_vc  K) : Calls Try.prog 17 #[] w fun e w' => ∃ r : Bool, e = .returned (.bool r) ∧ K r ∧ Below w.heap.size w w' := by
 refine enter0 Try.func17 rfl rfl (by kernel_rfl) ?_; intro a0 C; have k := Mem.start w Z hZ
 refine sqB C k [] [] [] ?_; intro a2 D
 refine sqH ?_; intro ac E
 refine ck D 49 #[] ?_
 refine (dtasks_fun  _ _ k.fz).mono ?_; rintro _ F ⟨p, q, ad, rfl, hm⟩; refine ⟨_, rfl, ?_⟩; intro a6 G; have H := k.callZ hm
 have I : Mem w.heap.size [] w Z [.own tyTask 34 p q tasksS] ad F := H
 have J := hp (I.ownSmall 0 rfl)
 obtain ⟨af, ag, L, g⟩ := I.freeze 0 rfl
 have s : Mem w.heap.size [] w Z [] af F := L
 refine ck G 15 #[.slice p tasksS.length q] ?_
 refine (dWorst_fun tasksS p q _ _ g s.fz).mono ?_; rintro _ ah ⟨h, i, ai, rfl, hm⟩; refine ⟨_, rfl, ?_⟩; intro ar M; have N := s.callZ hm
 have f : Mem w.heap.size [] w Z [.own tyStop 40 h i (WorstS tasksS).1] ai ah := N
 have l := J (f.ownSmall 0 rfl)
 refine bt M f 5 [] [] [(1, .slice h (WorstS tasksS).1.length i), (2, i6 (WorstS tasksS).2)] ?_; intro au P
 apply E
 refine sqH ?_; intro Q m
 refine bt P f 3 [] [] [(10, .bool ((WorstS tasksS).2 == 0))] ?_; intro av n
 rcases Bool.eq_false_or_eq_true ((WorstS tasksS).2 == 0) with j | j
 · -- true
  have aj := l.1 j
  have R := n.reval (d := 10) (c := []) (v := .bool ((WorstS tasksS).2 == 0)) (by kernel_rfl) (.bool true) (by rw [j])
  refine bt R f 3 [] [11, 12, 13] [(11, .slice h (WorstS tasksS).1.length i), (12, .agg #[i6 270, .bool true]), (13, .agg #[i6 270, .bool true])] ?_; intro aw t
  refine sn t f (fun b => .slice (sm b) 2 2) [i6 270, .bool true, i6 270, .bool true] 40 (wK t true) rfl (by kernel_rfl) (by kernel_rfl) ?_; intro o ax u y ak
  obtain ⟨S, U, V, z⟩ := ak.freeze 1 rfl
  have W : Mem w.heap.size [] w Z [.row o [i6 270, .bool true, i6 270, .bool true] 40] S u := V
  have al : Mem w.heap.size [] w Z [.own tyStop 40 (sm o) 2 ([(⟨270, true⟩ : Stop), (⟨270, true⟩ : Stop)] : List Stop)] S u := W.rowOwn (T := tyStop) (xs := ([(⟨270, true⟩ : Stop), (⟨270, true⟩ : Stop)] : List Stop)) 0 rfl (by decide) (by show 2 ≤ lim; decide) ((RepAll.one (T := tyStop) (x := (⟨270, true⟩ : Stop)) rfl).append (RepAll.one (T := tyStop) (x := (⟨270, true⟩ : Stop)) rfl))
  obtain ⟨am, A, X, an⟩ := al.freeze 0 rfl
  replace z := z.mono A
  have B : Mem w.heap.size [] w Z [] am u := X
  refine fcl y B (.bool (stopeqS (WorstS tasksS).1 ([(⟨270, true⟩ : Stop), (⟨270, true⟩ : Stop)] : List Stop))) 50 #[.slice h (WorstS tasksS).1.length i, .slice (sm o) ([(⟨270, true⟩ : Stop), (⟨270, true⟩ : Stop)] : List Stop).length 2] (wK y true) rfl (by kernel_rfl) (fun _ => by kernel_rfl) (stopeq_fun (WorstS tasksS).1 ([(⟨270, true⟩ : Stop), (⟨270, true⟩ : Stop)] : List Stop) h i (sm o) 2 _ _ z an B.fz) ?_; intro ay az Y aa
  refine bt Y aa 2 [] [16] [(0, .bool (stopeqS (WorstS tasksS).1 ([(⟨270, true⟩ : Stop), (⟨270, true⟩ : Stop)] : List Stop)))] ?_; intro aA ao
  apply m
  exact r_ (ra1 ao (.bool (stopeqS (WorstS tasksS).1 ([(⟨270, true⟩ : Stop), (⟨270, true⟩ : Stop)] : List Stop))) ⟨(stopeqS (WorstS tasksS).1 ([(⟨270, true⟩ : Stop), (⟨270, true⟩ : Stop)] : List Stop)), rfl, aj, aa.below⟩)
 · -- false
  have ap := l.2 j
  have ab := n.reval (d := 10) (c := []) (v := .bool ((WorstS tasksS).2 == 0)) (by kernel_rfl) (.bool false) (by rw [j])
  refine bt ab f 7 [] [11, 12, 13, 14, 15, 16] [(0, .bool false)] ?_; intro aB aq
  apply m
  exact r_ (ra1 aq (.bool false) ⟨false, rfl, ap, f.below⟩)

end Go.Proofs.Ytginlmgkimfjmaa
set_option linter.unusedVariables false
set_option linter.unusedSimpArgs false
set_option linter.defProp false
set_option maxRecDepth 100000
set_option maxHeartbeats 0
namespace Go.Proofs.Ytginlmgkimfjmaa
open Go.Sy Go.RowKit
abbrev e34Dk (X : Task) : List Value := [i6 X.ID, i6 X.Bytes, i6 X.Every, i6 X.Late, i6 X.Jitter]
def delayed_fun   (Z : Fz) (w : World)  (hZ : Z.on w) := f_ (delayed_walk   Z w  hZ (delayed_ok ))
theorem LMore_walk (u0 : List Task) (u1 : Task) (ao1 : Option Addr) (cap2 : Nat) (Z : Fz) (w : World) (hs3 : SlR tyTask Z ao1 cap2 u0) (hZ : Z.on w) {K : Bool → Prop} (hp : LMore_vc u0 u1 K) : Calls Try.prog 4 #[.slice ao1 u0.length cap2, .agg #[i6 u1.ID, i6 u1.Bytes, i6 u1.Every, i6 u1.Late, i6 u1.Jitter]] w fun e w' => ∃ r : Bool, e = .returned (.bool r) ∧ K r ∧ Below w.heap.size w w' := by
 refine enter0 Try.func4 rfl rfl (by kernel_rfl) ?_; intro a0 bN; have bO := Mem.start w Z hZ
 have bP := hp (hs3.small)
 refine sqH ?_; intro cY bQ
 refine nw bN bO pb (e34Dk u1) 34 ?_; intro F a7 eC bR bb
 refine s1 bR 4 (.bool false) ?_; intro eD bS
 apply bQ
 refine sqH ?_; intro cZ bT
 refine s1 bS 11 (.slice ao1 u0.length cap2) ?_; intro eE bU
 refine ck bU 15 #[.slice ao1 u0.length cap2] ?_
 refine (dWorst_fun u0 ao1 cap2 _ _ hs3 bb.fz).mono ?_; rintro _ c0 ⟨D, C, bc, rfl, hm⟩; refine ⟨_, rfl, ?_⟩; intro eF bV; have bW := bb.callZ hm; have bX := hm.ext.le
 replace hs3 := hs3.mono bX
 have bd : Mem w.heap.size [] w Z [.own tyStop 40 D C (WorstS u0).1, .row F (e34Dk u1) 34] bc c0 := bW
 have c1 := bP (bd.ownSmall 0 rfl)
 refine bt bV bd 5 [] [] [(5, .slice D (WorstS u0).1.length C), (6, i6 (WorstS u0).2)] ?_; intro ae bY
 apply bT
 have c2 : Fr 68 [] [⟨0, [], .slice ao1 u0.length cap2⟩, ⟨3, [], pt F 0⟩, ⟨5, [], .slice D (WorstS u0).1.length C⟩, ⟨6, [], i6 (WorstS u0).2⟩] ae := bY.reg
 obtain ⟨c3, c4⟩ := c1
 obtain ⟨c5, aO⟩ := c4
 refine wp_seq (any_invE mixed [[], [0], [], [2], [1, 3], [4], [5], [6], [6], [0, 1, 2, 3, 4, 5, 6, 7], [0, 1, 2, 3, 4, 5, 6, 7, 8, 9]] 11 (fun S a w1 => ∃ (L : Option Addr) (M : Nat) (u : Nat) (H : Option Addr) (I : Nat) (f : Option Addr) (d : Nat) (aa : Value) (Y : Value) (al : Value) (aC : Value) (ax : Value) (aD : Value) (ay : Value) (au : Value) (am : Value) (af : Value) (ab : Value) (aP : Res) (aQ : Res) (an : Res) (av : Res) (E : Fz), Fz.le bc E ∧ Fr 68 [] [⟨0, [], .slice ao1 u0.length cap2⟩, ⟨3, [], pt F 0⟩, ⟨5, [], .slice D (WorstS u0).1.length C⟩, ⟨6, [], i6 (WorstS u0).2⟩, ⟨7, [], aa⟩, ⟨8, [], Y⟩, ⟨15, [], al⟩, ⟨16, [], aC⟩, ⟨17, [], ax⟩, ⟨18, [], aD⟩, ⟨19, [], ay⟩, ⟨20, [], au⟩, ⟨21, [], am⟩, ⟨22, [], af⟩, ⟨23, [], ab⟩] a ∧ Mem w.heap.size [] w Z [aP, aQ, an, av] E w1 ∧ (S 9 = true → aa = .slice f (WorstS ((tcloneS u0) ++ [u1])).1.length d) ∧ (S 10 = true → Y = i6 (WorstS ((tcloneS u0) ++ [u1])).2) ∧ (S 6 = true → al = .tuple #[.slice f (WorstS ((tcloneS u0) ++ [u1])).1.length d, i6 (WorstS ((tcloneS u0) ++ [u1])).2]) ∧ (S 0 = true → aC = .slice ao1 u0.length cap2) ∧ (S 1 = true → ax = .slice L (tcloneS u0).length M) ∧ (S 2 = true → aD = .agg (e34Dk u1).toArray) ∧ (S 3 = true → ay = .slice (sm u) 1 1) ∧ (S 4 = true → au = .slice H ((tcloneS u0) ++ [u1]).length I) ∧ (S 5 = true → am = .tuple #[.slice f (WorstS ((tcloneS u0) ++ [u1])).1.length d, i6 (WorstS ((tcloneS u0) ++ [u1])).2]) ∧ (S 7 = true → af = .slice f (WorstS ((tcloneS u0) ++ [u1])).1.length d) ∧ (S 8 = true → ab = i6 (WorstS ((tcloneS u0) ++ [u1])).2) ∧ (aP = .own tyStop 40 D C (WorstS u0).1) ∧ (aQ = .row F (e34Dk u1) 34) ∧ (S 1 = false → an = .nil) ∧ (S 1 = true → S 4 = false → an = .own tyTask 34 L M (tcloneS u0)) ∧ (S 4 = true → S 5 = false → an = .own tyTask 34 H I ((tcloneS u0) ++ [u1])) ∧ (S 5 = true → an = .own tyStop 40 f d (WorstS ((tcloneS u0) ++ [u1])).1) ∧ (S 3 = false → av = .nil) ∧ (S 3 = true → av = .row u (e34Dk u1) 34) ∧ (S 5 = true → SlR tyTask E H I ((tcloneS u0) ++ [u1]))) ?h0 ?hs ?hE)
 case h0 =>
  have c6 := c2.any 7
  have c7 := c6.any 8
  have c8 := c7.any 15
  have c9 := c8.any 16
  have da := c9.any 17
  have db := da.any 18
  have dc := db.any 19
  have dd := dc.any 20
  have de := dd.any 21
  have df := de.any 22
  have dg := df.any 23
  have dh := bd.nilRes
  have di := dh.nilRes
  have dj := (di.perm ((pk 2 rfl).trans (((pk 2 rfl).trans (((pk 1 rfl).trans (lpr.cons _)).cons _)).cons _))).drew
  exact ⟨none, 0, 0, none, 0, none, 0, ae.tmps.getD 7 undef, ae.tmps.getD 8 undef, ae.tmps.getD 15 undef, ae.tmps.getD 16 undef, ae.tmps.getD 17 undef, ae.tmps.getD 18 undef, ae.tmps.getD 19 undef, ae.tmps.getD 20 undef, ae.tmps.getD 21 undef, ae.tmps.getD 22 undef, ae.tmps.getD 23 undef, .own tyStop 40 D C (WorstS u0).1, .row F (e34Dk u1) 34, .nil, .nil, bc, Fz.le.refl _, dg.reg, dj, ff, ff, ff, ff, ff, ff, ff, ff, ff, ff, ff, rfl, rfl, kf, ff, ff, ff, kf, ff, ff⟩
 case hs =>
  intro S hcl i o hil hi hSi hpre a w1 hI; refine Go.Sy.hid ?_; intro G hG; obtain ⟨L, M, u, H, I, f, d, aa, Y, al, aC, ax, aD, ay, au, am, af, ab, aP, aQ, an, av, E, y, hFx, hI⟩ := hI; obtain ⟨hMx, aR, bZ, aE, ag, ai, ah, aj, aw, az, aH, aI, ac, ad, aJ, aS, b0, aA, aK, ak, hI⟩ := hI; have aB := hI
  have hcase : i = 0 ∨ i = 1 ∨ i = 2 ∨ i = 3 ∨ i = 4 ∨ i = 5 ∨ i = 6 ∨ i = 7 ∨ i = 8 ∨ i = 9 ∨ i = 10 := by clear hi; omega
  rcases hcase with rfl | rfl | rfl | rfl | rfl | rfl | rfl | rfl | rfl | rfl | rfl
  ·
   obtain rfl := oj hi
   have R := hSi
   have B := ngF hcl 1 0 R
   have j := ngF hcl 4 1 B
   have c := ngF hcl 5 4 j
   have p := ngF hcl 6 5 c
   have P := ngF hcl 7 6 p
   have X := ngF hcl 8 6 p
   have U := ngF hcl 9 0 R
   have Q := ngF hcl 10 0 R
   obtain rfl := ac
   obtain rfl := ad
   obtain rfl := aJ B
   refine hG (any_step ?_); intro A J hJ
   have dk := hMx.keep (sD (List.Sublist.cons_cons _ (sC (sD (List.Sublist.slnil)))))
   refine s1 hFx 16 (.slice ao1 u0.length cap2) ?_; intro eH dl
   refine nl (qnI (hJ _ _ ?_))
   have dm := dk.nilRes
   exact ⟨L, M, u, H, I, f, d, aa, Y, al, .slice ao1 u0.length cap2, ax, aD, ay, au, am, af, ab, .own tyStop 40 D C (WorstS u0).1, .row F (e34Dk u1) 34, .nil, av, E, y, dl.reg, dm.perm ((pk 1 rfl).trans (((pk 1 rfl).trans (lpr.cons _)).cons _)), (nt U), (nt Q), (nt p), kf, (nt B), ah, aj, (nt j), (nt c), (nt P), (nt X), rfl, rfl, kf, (fun h _ => nt B h), (fun h _ => nt j h), (nt c), aK, ak, (nt c)⟩
  ·
   obtain rfl := oj hi
   have R := hpre 0 (by kernel_rfl)
   have B := hSi
   have j := ngF hcl 4 1 B
   have c := ngF hcl 5 4 j
   have p := ngF hcl 6 5 c
   have P := ngF hcl 7 6 p
   have X := ngF hcl 8 6 p
   have U := ngF hcl 9 1 B
   have Q := ngF hcl 10 1 B
   obtain rfl := ag R
   obtain rfl := ac
   obtain rfl := ad
   obtain rfl := aJ B
   refine hG (any_step ?_); intro A J hJ
   have hzst := Fz.le.refl E
   have be := hs3.mono y
   have bf := hMx.keep (sD (List.Sublist.cons_cons _ (sC (sD (List.Sublist.slnil)))))
   refine ck hFx 16 #[.slice ao1 u0.length cap2] ?_
   refine (tclone_fun u0 c3 ao1 cap2 _ _ be bf.fz).mono ?_; rintro _ dn ⟨aT, aU, b1, rfl, hm⟩; refine ⟨_, rfl, ?_⟩; intro eI dp; have b2 := bf.callZ hm; have bg := hm.ext.le
   replace hzst := hzst.mono bg
   have dq : Mem w.heap.size [] w Z [.own tyTask 34 aT aU (tcloneS u0), .own tyStop 40 D C (WorstS u0).1, .row F (e34Dk u1) 34, av] b1 dn := b2
   refine nl (qnI (hJ _ _ ?_))
   exact ⟨aT, aU, u, H, I, f, d, aa, Y, al, .slice ao1 u0.length cap2, .slice aT (tcloneS u0).length aU, aD, ay, au, am, af, ab, .own tyStop 40 D C (WorstS u0).1, .row F (e34Dk u1) 34, .own tyTask 34 aT aU (tcloneS u0), av, b1, y.trans hzst, dp.reg, dq.perm ((pk 1 rfl).trans (((pk 1 rfl).trans (lpr.cons _)).cons _)), (nt U), (nt Q), (nt p), kf, kf, ah, aj, (nt j), (nt c), (nt P), (nt X), rfl, rfl, nu, kf2, (fun h _ => nt j h), (nt c), aK, ak, (nt c)⟩
  ·
   obtain rfl := oj hi
   have V := hSi
   have l := ngF hcl 3 2 V
   have j := ngF hcl 4 3 l
   have c := ngF hcl 5 4 j
   have p := ngF hcl 6 5 c
   have P := ngF hcl 7 6 p
   have X := ngF hcl 8 6 p
   have U := ngF hcl 9 2 V
   have Q := ngF hcl 10 2 V
   obtain rfl := ac
   obtain rfl := ad
   obtain rfl := aK l
   refine hG (any_step ?_); intro A J hJ
   have b3 := hMx.keep (sD (List.Sublist.cons_cons _ (sD (sC (List.Sublist.slnil)))))
   refine l2 hFx b3 18 1 0 5 (e34Dk u1) rfl rfl ?_; intro eK dr
   refine nl (qnI (hJ _ _ ?_))
   have ds := b3.nilRes
   exact ⟨L, M, u, H, I, f, d, aa, Y, al, aC, ax, .agg (e34Dk u1).toArray, ay, au, am, af, ab, .own tyStop 40 D C (WorstS u0).1, .row F (e34Dk u1) 34, an, .nil, E, y, dr.reg, ds.perm ((pk 1 rfl).trans (((pk 1 rfl).trans (((pk 1 rfl).trans (lpr.cons _)).cons _)).cons _)), (nt U), (nt Q), (nt p), ag, ai, kf, (nt l), (nt j), (nt c), (nt P), (nt X), rfl, rfl, aJ, aS, (fun h _ => nt j h), (nt c), kf, (nt l), (nt c)⟩
  ·
   obtain rfl := oj hi
   have V := hpre 2 (by kernel_rfl)
   have l := hSi
   have j := ngF hcl 4 3 l
   have c := ngF hcl 5 4 j
   have p := ngF hcl 6 5 c
   have P := ngF hcl 7 6 p
   have X := ngF hcl 8 6 p
   have U := ngF hcl 9 3 l
   have Q := ngF hcl 10 3 l
   obtain rfl := ah V
   obtain rfl := ac
   obtain rfl := ad
   obtain rfl := aK l
   refine hG (any_step ?_); intro A J hJ
   have b4 := hMx.keep (sD (List.Sublist.cons_cons _ (sD (sC (List.Sublist.slnil)))))
   refine nw hFx b4 (fun b => .slice (sm b) 1 1) (e34Dk u1) 34 ?_; intro bh eM eN dt du
   refine nl (qnI (hJ _ _ ?_))
   exact ⟨L, M, bh, H, I, f, d, aa, Y, al, aC, ax, .agg (e34Dk u1).toArray, .slice (sm bh) 1 1, au, am, af, ab, .own tyStop 40 D C (WorstS u0).1, .row F (e34Dk u1) 34, an, .row bh (e34Dk u1) 34, E, y, dt.reg, du.perm ((pk 1 rfl).trans (((pk 1 rfl).trans (((pk 1 rfl).trans (lpr.cons _)).cons _)).cons _)), (nt U), (nt Q), (nt p), ag, ai, kf, kf, (nt j), (nt c), (nt P), (nt X), rfl, rfl, aJ, aS, (fun h _ => nt j h), (nt c), nu, kf, (nt c)⟩
  ·
   obtain rfl := oj hi
   have l := hpre 3 (by kernel_rfl)
   have B := hpre 1 (by kernel_rfl)
   have V := hcl 3 2 (by kernel_rfl) l
   have R := hcl 1 0 (by kernel_rfl) B
   have j := hSi
   have c := ngF hcl 5 4 j
   have p := ngF hcl 6 5 c
   have P := ngF hcl 7 6 p
   have X := ngF hcl 8 6 p
   have U := ngF hcl 9 4 j
   have Q := ngF hcl 10 4 j
   obtain rfl := ag R
   obtain rfl := ai B
   obtain rfl := ah V
   obtain rfl := aj l
   obtain rfl := ac
   obtain rfl := ad
   obtain rfl := aS B j
   obtain rfl := ak l
   refine hG (any_step ?_); intro A J hJ
   refine ap hFx hMx 2 (T := tyTask) (xs := (tcloneS u0)) (ys := [u1]) (ao := L) (cap := M) (ao2 := (sm u)) (cap2 := 1) (t := 32) (e := 34) (bytes := 40) (nog rfl _) rfl (by kernel_rfl) rfl (by kernel_rfl) (by kernel_rfl) (by kernel_rfl) rfl (Src.row hMx 3 rfl (RepAll.one (T := tyTask) (x := u1) rfl)) c5 ?_; intro aV aW eP dv eQ dw b5
   have dx : Mem w.heap.size [] w Z [.own tyStop 40 D C (WorstS u0).1, .row F (e34Dk u1) 34, .own tyTask 34 aV aW ((tcloneS u0) ++ [u1]), .row u (e34Dk u1) 34] E dv := b5
   refine nl (qnI (hJ _ _ ?_))
   exact ⟨L, M, u, aV, aW, f, d, aa, Y, al, .slice ao1 u0.length cap2, .slice L (tcloneS u0).length M, .agg (e34Dk u1).toArray, .slice (sm u) 1 1, .slice aV ((tcloneS u0) ++ [u1]).length aW, am, af, ab, .own tyStop 40 D C (WorstS u0).1, .row F (e34Dk u1) 34, .own tyTask 34 aV aW ((tcloneS u0) ++ [u1]), .row u (e34Dk u1) 34, E, y, dw.reg, dx.perm lpr, (nt U), (nt Q), (nt p), kf, kf, kf, kf, kf, (nt c), (nt P), (nt X), rfl, rfl, (tn B), (fun _ => nu), kf2, (nt c), (tn l), kf, (nt c)⟩
  ·
   obtain rfl := oj hi
   have j := hpre 4 (by kernel_rfl)
   have l := hcl 4 3 (by kernel_rfl) j
   have B := hcl 4 1 (by kernel_rfl) j
   have V := hcl 3 2 (by kernel_rfl) l
   have R := hcl 1 0 (by kernel_rfl) B
   have c := hSi
   have p := ngF hcl 6 5 c
   have P := ngF hcl 7 6 p
   have X := ngF hcl 8 6 p
   have U := ngF hcl 9 5 c
   have Q := ngF hcl 10 5 c
   obtain rfl := ag R
   obtain rfl := ai B
   obtain rfl := ah V
   obtain rfl := aj l
   obtain rfl := aw j
   obtain rfl := ac
   obtain rfl := ad
   obtain rfl := b0 j c
   obtain rfl := ak l
   refine hG (any_step ?_); intro A J hJ
   have hzst := Fz.le.refl E
   obtain ⟨dy, bi, b7, aY⟩ := hMx.freeze 2 rfl
   replace hzst := hzst.mono bi
   have bk : Mem w.heap.size [] w Z [.own tyStop 40 D C (WorstS u0).1, .row F (e34Dk u1) 34, .row u (e34Dk u1) 34] dy w1 := b7
   refine ck hFx 15 #[.slice H ((tcloneS u0) ++ [u1]).length I] ?_
   refine (dWorst_fun ((tcloneS u0) ++ [u1]) H I _ _ aY bk.fz).mono ?_; rintro _ dz ⟨aZ, a1, b8, rfl, hm⟩; refine ⟨_, rfl, ?_⟩; intro eR dA; have b9 := bk.callZ hm; have a2 := hm.ext.le
   replace hzst := hzst.mono a2
   replace aY := aY.mono a2
   have dB : Mem w.heap.size [] w Z [.own tyStop 40 aZ a1 (WorstS ((tcloneS u0) ++ [u1])).1, .own tyStop 40 D C (WorstS u0).1, .row F (e34Dk u1) 34, .row u (e34Dk u1) 34] b8 dz := b9
   refine nl (qnI (hJ _ _ ?_))
   exact ⟨L, M, u, H, I, aZ, a1, aa, Y, al, .slice ao1 u0.length cap2, .slice L (tcloneS u0).length M, .agg (e34Dk u1).toArray, .slice (sm u) 1 1, .slice H ((tcloneS u0) ++ [u1]).length I, .tuple #[.slice aZ (WorstS ((tcloneS u0) ++ [u1])).1.length a1, i6 (WorstS ((tcloneS u0) ++ [u1])).2], af, ab, .own tyStop 40 D C (WorstS u0).1, .row F (e34Dk u1) 34, .own tyStop 40 aZ a1 (WorstS ((tcloneS u0) ++ [u1])).1, .row u (e34Dk u1) 34, b8, y.trans hzst, dA.reg, dB.perm ((pk 1 rfl).trans (((pk 1 rfl).trans (lpr.cons _)).cons _)), (nt U), (nt Q), (nt p), kf, kf, kf, kf, kf, kf, (nt P), (nt X), rfl, rfl, (tn B), (fun _ => tn j), (fun _ => nu), kf, (tn l), kf, (fun _ => aY)⟩
  ·
   obtain rfl := oj hi
   have c := hpre 5 (by kernel_rfl)
   have j := hcl 5 4 (by kernel_rfl) c
   have l := hcl 4 3 (by kernel_rfl) j
   have B := hcl 4 1 (by kernel_rfl) j
   have V := hcl 3 2 (by kernel_rfl) l
   have R := hcl 1 0 (by kernel_rfl) B
   have p := hSi
   have P := ngF hcl 7 6 p
   have X := ngF hcl 8 6 p
   have U := ngF hcl 9 6 p
   have Q := ngF hcl 10 6 p
   obtain rfl := ag R
   obtain rfl := ai B
   obtain rfl := ah V
   obtain rfl := aj l
   obtain rfl := aw j
   obtain rfl := az c
   obtain rfl := ac
   obtain rfl := ad
   obtain rfl := aA c
   obtain rfl := ak l
   refine hG (any_step ?_); intro A J hJ
   have dC := aB c
   refine s1 hFx 15 (.tuple #[.slice f (WorstS ((tcloneS u0) ++ [u1])).1.length d, i6 (WorstS ((tcloneS u0) ++ [u1])).2]) ?_; intro eT dD
   refine nl (qnI (hJ _ _ ?_))
   exact ⟨L, M, u, H, I, f, d, aa, Y, .tuple #[.slice f (WorstS ((tcloneS u0) ++ [u1])).1.length d, i6 (WorstS ((tcloneS u0) ++ [u1])).2], .slice ao1 u0.length cap2, .slice L (tcloneS u0).length M, .agg (e34Dk u1).toArray, .slice (sm u) 1 1, .slice H ((tcloneS u0) ++ [u1]).length I, .tuple #[.slice f (WorstS ((tcloneS u0) ++ [u1])).1.length d, i6 (WorstS ((tcloneS u0) ++ [u1])).2], af, ab, .own tyStop 40 D C (WorstS u0).1, .row F (e34Dk u1) 34, .own tyStop 40 f d (WorstS ((tcloneS u0) ++ [u1])).1, .row u (e34Dk u1) 34, E, y, dD.reg, hMx.perm lpr, (nt U), (nt Q), kf, kf, kf, kf, kf, kf, kf, (nt P), (nt X), rfl, rfl, (tn B), (fun _ => tn j), (fun _ => tn c), kf, (tn l), kf, (fun _ => dC)⟩
  ·
   obtain rfl := oj hi
   have p := hpre 6 (by kernel_rfl)
   have c := hcl 6 5 (by kernel_rfl) p
   have j := hcl 5 4 (by kernel_rfl) c
   have l := hcl 4 3 (by kernel_rfl) j
   have B := hcl 4 1 (by kernel_rfl) j
   have V := hcl 3 2 (by kernel_rfl) l
   have R := hcl 1 0 (by kernel_rfl) B
   have P := hSi
   have U := ngF hcl 9 7 P
   have Q := ngF hcl 10 7 P
   obtain rfl := aE p
   obtain rfl := ag R
   obtain rfl := ai B
   obtain rfl := ah V
   obtain rfl := aj l
   obtain rfl := aw j
   obtain rfl := az c
   obtain rfl := ac
   obtain rfl := ad
   obtain rfl := aA c
   obtain rfl := ak l
   refine hG (any_step ?_); intro A J hJ
   have dE := aB c
   refine s1 hFx 22 (.slice f (WorstS ((tcloneS u0) ++ [u1])).1.length d) ?_; intro eV dF
   refine nl (qnI (hJ _ _ ?_))
   exact ⟨L, M, u, H, I, f, d, aa, Y, .tuple #[.slice f (WorstS ((tcloneS u0) ++ [u1])).1.length d, i6 (WorstS ((tcloneS u0) ++ [u1])).2], .slice ao1 u0.length cap2, .slice L (tcloneS u0).length M, .agg (e34Dk u1).toArray, .slice (sm u) 1 1, .slice H ((tcloneS u0) ++ [u1]).length I, .tuple #[.slice f (WorstS ((tcloneS u0) ++ [u1])).1.length d, i6 (WorstS ((tcloneS u0) ++ [u1])).2], .slice f (WorstS ((tcloneS u0) ++ [u1])).1.length d, ab, .own tyStop 40 D C (WorstS u0).1, .row F (e34Dk u1) 34, .own tyStop 40 f d (WorstS ((tcloneS u0) ++ [u1])).1, .row u (e34Dk u1) 34, E, y, dF.reg, hMx.perm lpr, (nt U), (nt Q), kf, kf, kf, kf, kf, kf, kf, kf, aI, rfl, rfl, (tn B), (fun _ => tn j), (fun _ => tn c), kf, (tn l), kf, (fun _ => dE)⟩
  ·
   obtain rfl := oj hi
   have p := hpre 6 (by kernel_rfl)
   have c := hcl 6 5 (by kernel_rfl) p
   have j := hcl 5 4 (by kernel_rfl) c
   have l := hcl 4 3 (by kernel_rfl) j
   have B := hcl 4 1 (by kernel_rfl) j
   have V := hcl 3 2 (by kernel_rfl) l
   have R := hcl 1 0 (by kernel_rfl) B
   have X := hSi
   have Q := ngF hcl 10 8 X
   obtain rfl := aE p
   obtain rfl := ag R
   obtain rfl := ai B
   obtain rfl := ah V
   obtain rfl := aj l
   obtain rfl := aw j
   obtain rfl := az c
   obtain rfl := ac
   obtain rfl := ad
   obtain rfl := aA c
   obtain rfl := ak l
   refine hG (any_step ?_); intro A J hJ
   have dG := aB c
   refine s1 hFx 23 (i6 (WorstS ((tcloneS u0) ++ [u1])).2) ?_; intro eX dH
   refine nl (qnI (hJ _ _ ?_))
   exact ⟨L, M, u, H, I, f, d, aa, Y, .tuple #[.slice f (WorstS ((tcloneS u0) ++ [u1])).1.length d, i6 (WorstS ((tcloneS u0) ++ [u1])).2], .slice ao1 u0.length cap2, .slice L (tcloneS u0).length M, .agg (e34Dk u1).toArray, .slice (sm u) 1 1, .slice H ((tcloneS u0) ++ [u1]).length I, .tuple #[.slice f (WorstS ((tcloneS u0) ++ [u1])).1.length d, i6 (WorstS ((tcloneS u0) ++ [u1])).2], af, i6 (WorstS ((tcloneS u0) ++ [u1])).2, .own tyStop 40 D C (WorstS u0).1, .row F (e34Dk u1) 34, .own tyStop 40 f d (WorstS ((tcloneS u0) ++ [u1])).1, .row u (e34Dk u1) 34, E, y, dH.reg, hMx.perm lpr, aR, (nt Q), kf, kf, kf, kf, kf, kf, kf, aH, kf, rfl, rfl, (tn B), (fun _ => tn j), (fun _ => tn c), kf, (tn l), kf, (fun _ => dG)⟩
  ·
   obtain rfl := oj hi
   have P := hpre 7 (by kernel_rfl)
   have p := hpre 6 (by kernel_rfl)
   have c := hpre 5 (by kernel_rfl)
   have j := hpre 4 (by kernel_rfl)
   have l := hpre 3 (by kernel_rfl)
   have V := hpre 2 (by kernel_rfl)
   have B := hpre 1 (by kernel_rfl)
   have R := hpre 0 (by kernel_rfl)
   have U := hSi
   have Q := ngF hcl 10 9 U
   obtain rfl := aE p
   obtain rfl := ag R
   obtain rfl := ai B
   obtain rfl := ah V
   obtain rfl := aj l
   obtain rfl := aw j
   obtain rfl := az c
   obtain rfl := aH P
   obtain rfl := ac
   obtain rfl := ad
   obtain rfl := aA c
   obtain rfl := ak l
   refine hG (any_step ?_); intro A J hJ
   have dI := aB c
   refine s1 hFx 7 (.slice f (WorstS ((tcloneS u0) ++ [u1])).1.length d) ?_; intro eZ dJ
   refine nl (qnI (hJ _ _ ?_))
   exact ⟨L, M, u, H, I, f, d, .slice f (WorstS ((tcloneS u0) ++ [u1])).1.length d, Y, .tuple #[.slice f (WorstS ((tcloneS u0) ++ [u1])).1.length d, i6 (WorstS ((tcloneS u0) ++ [u1])).2], .slice ao1 u0.length cap2, .slice L (tcloneS u0).length M, .agg (e34Dk u1).toArray, .slice (sm u) 1 1, .slice H ((tcloneS u0) ++ [u1]).length I, .tuple #[.slice f (WorstS ((tcloneS u0) ++ [u1])).1.length d, i6 (WorstS ((tcloneS u0) ++ [u1])).2], .slice f (WorstS ((tcloneS u0) ++ [u1])).1.length d, ab, .own tyStop 40 D C (WorstS u0).1, .row F (e34Dk u1) 34, .own tyStop 40 f d (WorstS ((tcloneS u0) ++ [u1])).1, .row u (e34Dk u1) 34, E, y, dJ.reg, hMx.perm lpr, kf, (nt Q), kf, kf, kf, kf, kf, kf, kf, kf, aI, rfl, rfl, (tn B), (fun _ => tn j), (fun _ => tn c), kf, (tn l), kf, (fun _ => dI)⟩
  obtain rfl := oj hi
  have U := hpre 9 (by kernel_rfl)
  have X := hpre 8 (by kernel_rfl)
  have P := hpre 7 (by kernel_rfl)
  have p := hpre 6 (by kernel_rfl)
  have c := hpre 5 (by kernel_rfl)
  have j := hpre 4 (by kernel_rfl)
  have l := hpre 3 (by kernel_rfl)
  have V := hpre 2 (by kernel_rfl)
  have B := hpre 1 (by kernel_rfl)
  have R := hpre 0 (by kernel_rfl)
  obtain rfl := aR U
  obtain rfl := aE p
  obtain rfl := ag R
  obtain rfl := ai B
  obtain rfl := ah V
  obtain rfl := aj l
  obtain rfl := aw j
  obtain rfl := az c
  obtain rfl := aH P
  obtain rfl := aI X
  obtain rfl := ac
  obtain rfl := ad
  obtain rfl := aA c
  obtain rfl := ak l
  refine hG (any_step ?_); intro A J hJ
  have dK := aB c
  refine s1 hFx 8 (i6 (WorstS ((tcloneS u0) ++ [u1])).2) ?_; intro e1 dL
  refine nl (qnI (hJ _ _ ?_))
  exact ⟨L, M, u, H, I, f, d, .slice f (WorstS ((tcloneS u0) ++ [u1])).1.length d, i6 (WorstS ((tcloneS u0) ++ [u1])).2, .tuple #[.slice f (WorstS ((tcloneS u0) ++ [u1])).1.length d, i6 (WorstS ((tcloneS u0) ++ [u1])).2], .slice ao1 u0.length cap2, .slice L (tcloneS u0).length M, .agg (e34Dk u1).toArray, .slice (sm u) 1 1, .slice H ((tcloneS u0) ++ [u1]).length I, .tuple #[.slice f (WorstS ((tcloneS u0) ++ [u1])).1.length d, i6 (WorstS ((tcloneS u0) ++ [u1])).2], .slice f (WorstS ((tcloneS u0) ++ [u1])).1.length d, i6 (WorstS ((tcloneS u0) ++ [u1])).2, .own tyStop 40 D C (WorstS u0).1, .row F (e34Dk u1) 34, .own tyStop 40 f d (WorstS ((tcloneS u0) ++ [u1])).1, .row u (e34Dk u1) 34, E, y, dL.reg, hMx.perm lpr, kf, kf, kf, kf, kf, kf, kf, kf, kf, kf, kf, rfl, rfl, (tn B), (fun _ => tn j), (fun _ => tn c), kf, (tn l), kf, (fun _ => dK)⟩
 case hE =>
  intro S hS dM e2 hI; refine Go.Sy.hid ?_; intro G hG; obtain ⟨L, M, u, H, I, f, d, aa, Y, al, aC, ax, aD, ay, au, am, af, ab, aP, aQ, an, av, E, y, hFx, hI⟩ := hI; obtain ⟨hMx, aR, bZ, aE, ag, ai, ah, aj, aw, az, aH, aI, ac, ad, aJ, aS, b0, aA, aK, ak, hI⟩ := hI; refine hG ?_
  obtain rfl := aR (hS 9 (by decide))
  obtain rfl := bZ (hS 10 (by decide))
  obtain rfl := aE (hS 6 (by decide))
  obtain rfl := ag (hS 0 (by decide))
  obtain rfl := ai (hS 1 (by decide))
  obtain rfl := ah (hS 2 (by decide))
  obtain rfl := aj (hS 3 (by decide))
  obtain rfl := aw (hS 4 (by decide))
  obtain rfl := az (hS 5 (by decide))
  obtain rfl := aH (hS 7 (by decide))
  obtain rfl := aI (hS 8 (by decide))
  obtain rfl := ac
  obtain rfl := ad
  obtain rfl := aA (hS 5 (by decide))
  obtain rfl := ak (hS 3 (by decide))
  refine t_ (s_ ?_)
  have ca : Fr 68 [] [⟨5, [], .slice D (WorstS u0).1.length C⟩, ⟨6, [], i6 (WorstS u0).2⟩, ⟨7, [], .slice f (WorstS ((tcloneS u0) ++ [u1])).1.length d⟩, ⟨8, [], i6 (WorstS ((tcloneS u0) ++ [u1])).2⟩] dM := hFx.reg
  refine sqH ?_; intro dN cb
  refine fc ca hMx (delayed_fun  _ _ hMx.fz) ?_; intro e3 cc ce aF
  refine bt ce aF 9 [] [27, 28, 29] [(33, .bool (((WorstS u0).2 != 0) || ((WorstS ((tcloneS u0) ++ [u1])).2 != 0)))] ?_; intro e4 aL
  apply cb
  refine c_ aL aO (fun _ dO => ?_) fun _ dS => ?_
  ·
   refine sqH ?_; intro dP cf
   refine fc aL aF (delayed_fun  _ _ aF.fz) ?_; intro e5 e6 cg dQ
   refine s1 cg 4 (.bool true) ?_; intro e7 dR
   apply cf
   exact r_ (h_ (ra1 dR (.bool true) ⟨true, rfl, dO, dQ.below⟩))
  refine k_ (s_ (sqB aL aF [] [] [(36, i6 ((WorstS u0).1.length : Int)), (37, i6 0)] ?_)); intro ch ci
  apply b_
  have cl : Fr 68 [] [⟨5, [], .slice D (WorstS u0).1.length C⟩, ⟨7, [], .slice f (WorstS ((tcloneS u0) ++ [u1])).1.length d⟩, ⟨36, [], i6 ((WorstS u0).1.length : Int)⟩, ⟨37, [], i6 0⟩] ch := ci.reg
  obtain ⟨dT, bm, cm, a5⟩ := aF.freeze 0 rfl
  have dU : Mem w.heap.size [] w Z [.row F (e34Dk u1) 34, .own tyStop 40 f d (WorstS ((tcloneS u0) ++ [u1])).1, .row u (e34Dk u1) 34] dT cc := cm
  obtain ⟨bn, a6, cn, co⟩ := dU.freeze 1 rfl
  replace a5 := a5.mono a6
  have cp : Mem w.heap.size [] w Z [.row F (e34Dk u1) 34, .row u (e34Dk u1) 34] bn cc := cn
  have cq : Fr 68 [] [⟨5, [], .slice D (WorstS u0).1.length C⟩, ⟨7, [], .slice f (WorstS ((tcloneS u0) ++ [u1])).1.length d⟩, ⟨36, [], i6 ((WorstS u0).1.length : Int)⟩, ⟨37, [], i6 0⟩] ch := cl.reg
  obtain ⟨dV, dW, dX, dY⟩ := dS
  refine lp (ι := Int) (fun s => [⟨5, [], .slice D (WorstS u0).1.length C⟩, ⟨7, [], .slice f (WorstS ((tcloneS u0) ++ [u1])).1.length d⟩, ⟨36, [], i6 ((WorstS u0).1.length : Int)⟩, ⟨37, [], i6 s⟩]) (fun s => [.row F (e34Dk u1) 34, .row u (e34Dk u1) 34]) (fun s => bn) (fun s => dV s) (fun s => dW s) 0 dX (by exact cq.reg) (by exact cp) ?_
  rintro O dZ d0 d1 cr cs
  have a8 := dY O dZ
  refine sqB cr cs [] [] [(38, .bool (decide (O < ((WorstS u0).1.length : Int))))] ?_; intro e8 aM
  refine s_ (c_ aM a8 (fun _ d2 => ?_) fun _ eA => ?_)
  ·
   refine k_ (s_ (b_ (sqB aM cs [] [] [(9, i6 O)] ?_))); intro d3 cu
   have cv : Fr 68 [] [⟨5, [], .slice D (WorstS u0).1.length C⟩, ⟨7, [], .slice f (WorstS ((tcloneS u0) ++ [u1])).1.length d⟩, ⟨9, [], i6 O⟩, ⟨36, [], i6 ((WorstS u0).1.length : Int)⟩, ⟨37, [], i6 O⟩] d3 := cu.reg
   refine sqQH mixed (by kernel_rfl) cs ?_; intro d4 cw
   refine q1 cv 40 (.slice f (WorstS ((tcloneS u0) ++ [u1])).1.length d) ?_; intro e9 cx
   refine q1 cx 41 (i6 O) ?_; intro fa cy
   obtain ⟨d5, cz⟩ := d2
   refine qx_ cy co O d5 .i64 40 16 ?_; intro d6 d7 d8 W fb d9 ea eb cA
   have ec := cz W d9
   obtain rfl : d8 = ([i6 W.Wait, .bool W.Fits] : List Value) := eb
   refine q1 cA 43 (pt d6 d7) ?_; intro fd bp
   refine qz_ bp ea 0 (i6 W.Wait) rfl ?_; intro fe cB
   refine q1 cB 45 (.bool (decide (W.Wait ≥ 0))) ?_; intro fg cC
   refine q1 cC 46 (.bool (decide (W.Wait ≥ 0))) ?_; intro fh cD
   have bq := cD.atom ((decide (W.Wait ≥ 0)) == true) (by kernel_rfl)
   refine qgd bq (.slice D (WorstS u0).1.length C) (m := 0) (cj := []) (bj := decide (W.Wait ≥ 0)) rfl rfl (by kernel_rfl) rfl (by kernel_rfl) (by kernel_rfl) (by kernel_rfl) (fun hg => qat_ok (fun v302 hC => pu bq (g := [0]) (by kernel_rfl) hg)) ?_; intro fi br
   refine qgd br (i6 O) (m := 0) (cj := []) (bj := decide (W.Wait ≥ 0)) rfl rfl (by kernel_rfl) rfl (by kernel_rfl) (by kernel_rfl) (by kernel_rfl) (fun hg => qat_ok (fun v305 hC => pu br (g := [0]) (by kernel_rfl) hg)) ?_; intro fj bs
   obtain ⟨ed, cE⟩ := ec
   obtain ⟨N, ee, ef⟩ := gxq cE (by omega)
   obtain ⟨cF, eg, eh, ei, cG, ej⟩ := SlR.get a5 ee; obtain ⟨cH, cI⟩ : ∃ z, eg + O.toNat * tyStop.n = z := ⟨_, rfl⟩; rw [cI] at cG
   obtain rfl : eh = ([i6 N.Wait, .bool N.Fits] : List Value) := ej
   refine qgd bs (pt cF cH) (m := 0) (cj := []) (bj := decide (W.Wait ≥ 0)) rfl rfl (by kernel_rfl) rfl (by kernel_rfl) (by kernel_rfl) (by kernel_rfl) (fun hg => qat_ok (fun v308 hC => ixg_run bs (g := [0]) (cap := C) (T := tyStop) (xs := (WorstS u0).1) O ed (k := .i64) (e := 40) (bytes := 16) rfl (by kernel_rfl) (by kernel_rfl) (by kernel_rfl) ei cI hg)) ?_; intro fk bu
   refine qgd bu (pt cF cH) (m := 0) (cj := []) (bj := decide (W.Wait ≥ 0)) rfl rfl (by kernel_rfl) rfl (by kernel_rfl) (by kernel_rfl) (by kernel_rfl) (fun hg => qat_ok (fun v324 hC => pu bu (g := [0]) (by kernel_rfl) hg)) ?_; intro fl bv
   refine qgd bv (i6 N.Wait) (m := 0) (cj := []) (bj := decide (W.Wait ≥ 0)) rfl rfl (by kernel_rfl) rfl (by kernel_rfl) (by kernel_rfl) (by kernel_rfl) (fun hg => qat_ok (fun v327 hC => lz bv hC.fz cG 0 (g := [0]) rfl (by kernel_rfl) (by kernel_rfl) (by kernel_rfl) hg)) ?_; intro fm bw
   refine qgd bw (.bool (decide (N.Wait < 0))) (m := 0) (cj := []) (bj := decide (W.Wait ≥ 0)) rfl rfl (by kernel_rfl) rfl (by kernel_rfl) (by kernel_rfl) (by kernel_rfl) (fun hg => qat_ok (fun v330 hC => pu bw (g := [0]) (by kernel_rfl) hg)) ?_; intro fn bx
   refine qgd bx (.bool (decide (N.Wait < 0))) (m := 0) (cj := []) (bj := decide (W.Wait ≥ 0)) rfl rfl (by kernel_rfl) rfl (by kernel_rfl) (by kernel_rfl) (by kernel_rfl) (fun hg => qat_ok (fun v333 hC => pu bx (g := [0]) (by kernel_rfl) hg)) ?_; intro fo cJ
   have bz := cJ.atom ((decide (N.Wait < 0)) == false) (by kernel_rfl)
   refine qgd bz (.slice D (WorstS u0).1.length C) (m := 1) (cj := [0]) (bj := decide (N.Wait < 0)) rfl rfl (by kernel_rfl) rfl (by kernel_rfl) (by kernel_rfl) (by kernel_rfl) (fun hg => qat_ok (fun v337 hC => pu bz (g := [1, 0]) (by kernel_rfl) hg)) ?_; intro fp bA
   refine qgd bA (i6 O) (m := 1) (cj := [0]) (bj := decide (N.Wait < 0)) rfl rfl (by kernel_rfl) rfl (by kernel_rfl) (by kernel_rfl) (by kernel_rfl) (fun hg => qat_ok (fun v340 hC => pu bA (g := [1, 0]) (by kernel_rfl) hg)) ?_; intro fq bB
   obtain ⟨ek, cK⟩ := ef
   obtain ⟨aq, el, em⟩ := gxq cK (by omega)
   obtain ⟨cL, en, eo, ep, cM, eq⟩ := SlR.get a5 el; obtain ⟨cN, cO⟩ : ∃ z, en + O.toNat * tyStop.n = z := ⟨_, rfl⟩; rw [cO] at cM
   obtain rfl : eo = ([i6 aq.Wait, .bool aq.Fits] : List Value) := eq
   refine qgd bB (pt cL cN) (m := 1) (cj := [0]) (bj := decide (N.Wait < 0)) rfl rfl (by kernel_rfl) rfl (by kernel_rfl) (by kernel_rfl) (by kernel_rfl) (fun hg => qat_ok (fun v343 hC => ixg_run bB (g := [1, 0]) (cap := C) (T := tyStop) (xs := (WorstS u0).1) O ek (k := .i64) (e := 40) (bytes := 16) rfl (by kernel_rfl) (by kernel_rfl) (by kernel_rfl) ep cO hg)) ?_; intro fr bC
   refine qgd bC (pt cL cN) (m := 1) (cj := [0]) (bj := decide (N.Wait < 0)) rfl rfl (by kernel_rfl) rfl (by kernel_rfl) (by kernel_rfl) (by kernel_rfl) (fun hg => qat_ok (fun v359 hC => pu bC (g := [1, 0]) (by kernel_rfl) hg)) ?_; intro fs bD
   refine qgd bD (i6 aq.Wait) (m := 1) (cj := [0]) (bj := decide (N.Wait < 0)) rfl rfl (by kernel_rfl) rfl (by kernel_rfl) (by kernel_rfl) (by kernel_rfl) (fun hg => qat_ok (fun v362 hC => lz bD hC.fz cM 0 (g := [1, 0]) rfl (by kernel_rfl) (by kernel_rfl) (by kernel_rfl) hg)) ?_; intro ft bE
   refine qgd bE (.slice f (WorstS ((tcloneS u0) ++ [u1])).1.length d) (m := 1) (cj := [0]) (bj := decide (N.Wait < 0)) rfl rfl (by kernel_rfl) rfl (by kernel_rfl) (by kernel_rfl) (by kernel_rfl) (fun hg => qat_ok (fun v365 hC => pu bE (g := [1, 0]) (by kernel_rfl) hg)) ?_; intro fu bF
   refine qgd bF (i6 O) (m := 1) (cj := [0]) (bj := decide (N.Wait < 0)) rfl rfl (by kernel_rfl) rfl (by kernel_rfl) (by kernel_rfl) (by kernel_rfl) (fun hg => qat_ok (fun v368 hC => pu bF (g := [1, 0]) (by kernel_rfl) hg)) ?_; intro fv bG
   obtain ⟨er, cP⟩ := em
   obtain ⟨ar, es, a9⟩ := gxq cP (by omega)
   obtain ⟨cQ, et, eu, ev, cR, ew⟩ := SlR.get co es; obtain ⟨cS, cT⟩ : ∃ z, et + O.toNat * tyStop.n = z := ⟨_, rfl⟩; rw [cT] at cR
   obtain rfl : eu = ([i6 ar.Wait, .bool ar.Fits] : List Value) := ew
   refine qgd bG (pt cQ cS) (m := 1) (cj := [0]) (bj := decide (N.Wait < 0)) rfl rfl (by kernel_rfl) rfl (by kernel_rfl) (by kernel_rfl) (by kernel_rfl) (fun hg => qat_ok (fun v371 hC => ixg_run bG (g := [1, 0]) (cap := d) (T := tyStop) (xs := (WorstS ((tcloneS u0) ++ [u1])).1) O er (k := .i64) (e := 40) (bytes := 16) rfl (by kernel_rfl) (by kernel_rfl) (by kernel_rfl) ev cT hg)) ?_; intro fw bH
   refine qgd bH (pt cQ cS) (m := 1) (cj := [0]) (bj := decide (N.Wait < 0)) rfl rfl (by kernel_rfl) rfl (by kernel_rfl) (by kernel_rfl) (by kernel_rfl) (fun hg => qat_ok (fun v387 hC => pu bH (g := [1, 0]) (by kernel_rfl) hg)) ?_; intro fx bI
   refine qgd bI (i6 ar.Wait) (m := 1) (cj := [0]) (bj := decide (N.Wait < 0)) rfl rfl (by kernel_rfl) rfl (by kernel_rfl) (by kernel_rfl) (by kernel_rfl) (fun hg => qat_ok (fun v390 hC => lz bI hC.fz cR 0 (g := [1, 0]) rfl (by kernel_rfl) (by kernel_rfl) (by kernel_rfl) hg)) ?_; intro fy bJ
   refine qgd bJ (.bool (decide (aq.Wait > ar.Wait))) (m := 1) (cj := [0]) (bj := decide (N.Wait < 0)) rfl rfl (by kernel_rfl) rfl (by kernel_rfl) (by kernel_rfl) (by kernel_rfl) (fun hg => qat_ok (fun v393 hC => pu bJ (g := [1, 0]) (by kernel_rfl) hg)) ?_; intro fA bK
   refine qgd bK (.bool ((decide (N.Wait < 0)) || (decide (aq.Wait > ar.Wait)))) (m := 0) (cj := []) (bj := decide (W.Wait ≥ 0)) rfl rfl (by kernel_rfl) rfl (by kernel_rfl) (by kernel_rfl) (by kernel_rfl) (fun hg => qat_ok (fun v396 hC => pk_or bK (g := [0]) (m := 1) (b := decide (N.Wait < 0)) (v := decide (aq.Wait > ar.Wait)) rfl (by kernel_rfl) (by kernel_rfl) (by kernel_rfl) hg)) ?_; intro fB bL
   refine qu_ bL (.bool ((decide (W.Wait ≥ 0)) && ((decide (N.Wait < 0)) || (decide (aq.Wait > ar.Wait))))) (fun v399 hC => pk_and bL (g := []) (m := 0) (b := decide (W.Wait ≥ 0)) (v := (decide (N.Wait < 0)) || (decide (aq.Wait > ar.Wait))) rfl (by kernel_rfl) (by kernel_rfl) (by kernel_rfl) rfl) ?_; intro cU aN
   refine qnl (cw _ ?_); intro fC ba
   refine c_ aN a9 (fun _ ex => ?_) fun _ cW => ?_
   ·
    have cV : Fr 68 [] [] cU := aN.reg
    refine sqB cV ba [] [] [(4, .bool false)] ?_; intro fD ey
    exact r_ (i_ (h_ (h_ (i_ (h_ (ra1 ey (.bool false) ⟨false, rfl, ex, ba.below⟩))))))
   refine l_ (j_ (t_ ?_))
   have cX : Fr 68 [] [⟨5, [], .slice D (WorstS u0).1.length C⟩, ⟨7, [], .slice f (WorstS ((tcloneS u0) ++ [u1])).1.length d⟩, ⟨36, [], i6 ((WorstS u0).1.length : Int)⟩, ⟨37, [], i6 O⟩] cU := aN.reg
   refine rgB cX ba [] [] [(37, i6 (w64 (O + 1)))] ?_; intro fE ez
   exact d_ ⟨w64 (O + 1), cW.1, cW.2, (ez.reg).anyβ _ (by kernel_rfl), ba.kp⟩
  refine x_ (y_ (y_ (z_ (t_ (sqB aM cs [] [] [(4, .bool true)] ?_))))); intro fF eB
  exact r_ (ra1 eB (.bool true) ⟨true, rfl, eA, cs.below⟩)

end Go.Proofs.Ytginlmgkimfjmaa
set_option linter.unusedVariables false
set_option linter.unusedSimpArgs false
namespace Go.Proofs.Ytginlmgkimfjmaa
open Go.Sy Go.RowKit

end Go.Proofs.Ytginlmgkimfjmaa
