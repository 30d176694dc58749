/- Texts put together (pure ones, or walks made by program). -/
import Derived.Test.YtmbdcehmeiiaoaaGreatDoorCore
import Derived.Test.YtmbdcehmeiiaoaaGreatDoorK1
import Derived.Test.YtmbdcehmeiiaoaaGreatDoorK2
import Derived.Test.YtmbdcehmeiiaoaaGreatDoorK3
import Derived.Shelf.Lay
import Derived.Ground.NamesProg
import Derived.Shelf.Strings.Builder1
namespace Go.Sy
open Go.Proofs Go.Shelf Go.RowKit
variable {P : Program} {ρ : Ren} {B b : Nat} {w0 : World} {Z : Fz} {w w' : World} {T e : TypeId} {ao : Option Addr} {cap : Nat} {p : Value}
theorem repBytes {Z : Fz} {cells : List Value} {xs : List UInt8} (h : RepAll tyByte Z cells xs) : cells = Lib.byteCells xs := by
  have hl : cells.length = xs.length * 1 := h.1
  apply List.ext_getElem?
  intro i
  unfold Lib.byteCells
  rw [List.getElem?_map]
  rcases Nat.lt_or_ge i xs.length with hi | hi
  · have hx : xs[i]? = some xs[i] := List.getElem?_eq_getElem hi
    have hr : ((cells.drop (i * 1)).take 1) = [.int .u8 (xs[i].toNat : Int)] := h.2 i _ hx
    rw [hx, Nat.mul_one] at *
    have := congrArg (fun l => l[0]?) hr
    simpa using this
  · rw [List.getElem?_eq_none (by omega), List.getElem?_eq_none hi]
    rfl
theorem bytesRep (Z : Fz) (xs : List UInt8) : RepAll tyByte Z (Lib.byteCells xs) xs := by
  refine ⟨by simp [Lib.byteCells, tyByte], fun i x hx => ?_⟩
  show ((Lib.byteCells xs).drop (i * 1)).take 1 = [.int .u8 (x.toNat : Int)]
  have hi := (List.getElem?_eq_some_iff.1 hx).1
  unfold Lib.byteCells
  rw [Nat.mul_one, List.drop_eq_getElem_cons (by simpa using hi)]
  have hx2 : xs[i] = x := (List.getElem?_eq_some_iff.1 hx).2
  simp [hx2]
/-- The memory of a call that has one builder and nothing else of its own. -/
abbrev BldR (b : Nat) (p : Value) (T e : TypeId) (ao : Option Addr) (cap : Nat) (xs : List UInt8) : List Res := [.row b [p, .slice ao xs.length cap] T, .own tyByte e ao cap xs]
theorem bld_is {xs : List UInt8} (hM : Mem B [] w0 Z (BldR b p T e ao cap xs) Z w) (hp : p = .pointer none ∨ p = .pointer (some ⟨b, 0, none⟩)) : Lib.IsBuilder T e B b (Lib.byteCells xs) w := by
  have h1 := hM.res (.row b [p, .slice ao xs.length cap] T) (by simp)
  have h2 := hM.res (.own tyByte e ao cap xs) (by simp)
  obtain ⟨_, _, cells, ho, hr⟩ := h2
  have hc := repBytes hr
  subst hc
  have hl : (Lib.byteCells xs).length = xs.length := Lib.byteCells_length xs
  have hB : B ≤ b := h1.1.elim id (by simp)
  have hn : (Value.slice ao xs.length cap).ownBlock ≠ some b := by
    have hnd := (List.pairwise_cons.1 hM.nd).1 (.own tyByte e ao cap xs) (by simp) b rfl
    cases ao with
    | none => simp [Value.ownBlock]
    | some ad => simpa [Value.ownBlock, Res.foot] using hnd
  have hA : Lib.BuilderAt T e B b p (Lib.byteCells xs) w := ⟨hB, _, h1.2, by rw [hl]; exact ho, hn⟩
  rcases hp with rfl | rfl
  · exact .inl hA
  · exact .inr hA
theorem bld_back {R : List Res} {ys : List UInt8} (hM : Mem B [] w0 Z R Z w) (hZB : ∀ k o, Z k = some o → k < B) (hA : Lib.BuilderAt T e B b (.pointer (some ⟨b, 0, none⟩)) (Lib.byteCells ys) w') (hb : Below B w w') (hl : ys.length ≤ lim) :
    ∃ ao cap, Mem B [] w0 Z (BldR b (.pointer (some ⟨b, 0, none⟩)) T e ao cap ys) Z w' := by
  obtain ⟨hBb, v, hv, ho, hne⟩ := hA
  rw [Lib.byteCells_length] at ho
  have hshape : ∃ ao cap, v = .slice ao ys.length cap := by
    rcases ho.2 with ⟨e1, e2⟩ | ⟨g, c, cur, e1, _⟩
    · exact ⟨none, 0, by rw [e1, e2]⟩
    · exact ⟨_, c, e1⟩
  obtain ⟨ao, cap, rfl⟩ := hshape
  have hsz := hb.size
  have hbase : B ≤ w'.heap.size := Nat.le_trans hM.base hsz
  have hfb : ∀ k, (Res.own tyByte e ao cap ys).foot = some k → B ≤ k ∧ k ≠ b := by
    intro k hk
    cases ao with
    | none => simp [Res.foot] at hk
    | some ad =>
      simp only [Res.foot, Option.map_some, Option.some.injEq] at hk
      subst hk
      refine ⟨(World.ownsRow.lt ho ad.block rfl).1, fun hc => hne ?_⟩
      rw [← hc]
      rfl
  refine ⟨ao, cap, ⟨hM.kept.os ▸ hb.os, hM.kept.tape ▸ hb.tape, hM.kept.output ▸ hb.output, Nat.le_trans hM.kept.size hsz, fun k hk hU => (hb.block k hk).trans (hM.kept.block k hk hU)⟩, hbase, ?_, ?_, fun k o hk => by rw [hb.block k (hZB k o hk)]; exact hM.fz k o hk, hM.ext, ?_⟩
  · intro r hr
    rcases List.mem_cons.1 hr with rfl | hr
    · exact ⟨.inl hBb, hv⟩
    · rcases List.mem_cons.1 hr with rfl | hr
      · exact ⟨Nat.one_pos, hl, _, ho, bytesRep Z ys⟩
      · cases hr
  · refine List.Pairwise.cons (fun s hs k hk hc => ?_) (List.Pairwise.cons (by simp) List.Pairwise.nil)
    simp only [List.mem_cons, List.not_mem_nil, or_false] at hs
    subst hs
    have hkb : k = b := by simpa [Res.foot, eq_comm] using hk
    exact (hfb k hc).2 hkb
  · intro r hr k hk
    have hBk : B ≤ k := by
      rcases List.mem_cons.1 hr with rfl | hr
      · have : k = b := by simpa [Res.foot, eq_comm] using hk
        omega
      · rcases List.mem_cons.1 hr with rfl | hr
        · exact (hfb k hk).1
        · cases hr
    cases hz : Z k with
    | none => rfl
    | some o => have := hZB k o hz; omega
theorem Mem.bldNil (hM : Mem B [] w0 Z [.row b [p, .slice none 0 0] T] Z w) (e : TypeId) : Mem B [] w0 Z (BldR b p T e none 0 []) Z w :=
  ((hM.addNil tyByte e Nat.one_pos).perm (List.Perm.swap _ _ _))
theorem bld_write (L : Lays.n166 P ρ) (X : Builder.Extra P ρ) {xs s : List UInt8} (hM : Mem B [] w0 Z (BldR b p (ρ.t 72) (ρ.t 5) ao cap xs) Z w) (hZB : ∀ k o, Z k = some o → k < B) (hp : p = .pointer none ∨ p = .pointer (some ⟨b, 0, none⟩)) (hl : xs.length + s.length ≤ 140737488355328) :
    Calls P (ρ.f 166) #[.pointer (some ⟨b, 0, none⟩), str s] w fun e w' => ∃ ao' cap', e = .returned (.tuple #[.int .i64 (s.length : Int), .nilIface]) ∧ Mem B [] w0 Z (BldR b (.pointer (some ⟨b, 0, none⟩)) (ρ.t 72) (ρ.t 5) ao' cap' (xs ++ s)) Z w' := by
  refine (Any.Builder_WriteString L X B b _ ⟨⟨s⟩⟩ w (bld_is hM hp) (by rw [Lib.byteCells_length]; exact hl) hM.base).mono fun e1 w1 ⟨he, hA, hb⟩ => ?_
  have e2 : Lib.byteCells xs ++ Lib.strCells ⟨⟨s⟩⟩ = Lib.byteCells (xs ++ s) := by simp [Lib.byteCells, Lib.strCells]
  rw [e2] at hA
  obtain ⟨ao', cap', h⟩ := bld_back hM hZB hA hb (by rw [List.length_append]; exact hl)
  exact ⟨ao', cap', he, h⟩
theorem bld_string (L : Lays.n169 P ρ) (X : Builder.Extra P ρ) {xs : List UInt8} (hM : Mem B [] w0 Z (BldR b p (ρ.t 72) (ρ.t 5) ao cap xs) Z w) (hZB : ∀ k o, Z k = some o → k < B) (hp : p = .pointer none ∨ p = .pointer (some ⟨b, 0, none⟩)) :
    Calls P (ρ.f 169) #[.pointer (some ⟨b, 0, none⟩)] w fun e w' => e = .returned (str xs) ∧ Mem B [] w0 Z [] Z w' := by
  refine (Any.Builder_String_any L X B b xs w (bld_is hM hp) hM.base).mono fun e1 w1 ⟨he, hb⟩ => ⟨he, ?_⟩
  exact ⟨⟨hM.kept.os ▸ hb.os, hM.kept.tape ▸ hb.tape, hM.kept.output ▸ hb.output, Nat.le_trans hM.kept.size hb.size, fun k hk hU => (hb.block k hk).trans (hM.kept.block k hk hU)⟩, Nat.le_trans hM.base hb.size, by simp, List.Pairwise.nil, fun k o hk => by rw [hb.block k (hZB k o hk)]; exact hM.fz k o hk, hM.ext, by simp⟩
theorem zB {w : World} (h : Z.on w) : ∀ k o, Z k = some o → k < w.heap.size := fun k o hk => lt_of_get (h k o hk)
end Go.Sy
namespace Go.Proofs
open Go.Shelf
def Tryz.lays166_ren : Go.Shelf.Ren := ⟨fun | 166 => 98 | 240 => 118 | 276 => 138 | n => n, fun | 37 => 22 | 70 => 131 | 72 => 133 | 75 => 135 | 80 => 73 | 164 => 169 | n => n, fun n => n⟩
theorem Tryz.lays166 : Lays.n166 Tryz.prog Tryz.lays166_ren where
  mixed := by kernel_rfl
  f166 := Tryz.func98.trans (congrArg some (by kernel_rfl))
  f240 := Tryz.func118.trans (congrArg some (by kernel_rfl))
  f276 := Tryz.func138.trans (congrArg some (by kernel_rfl))
  t0 := Tryz.underlying0
  a0 := Tryz.isAgg0
  z0 := Tryz.sizeOf0
  v0 := Tryz.zeroValue0
  t3 := Tryz.underlying3
  a3 := Tryz.isAgg3
  z3 := Tryz.sizeOf3
  v3 := Tryz.zeroValue3
  t4 := Tryz.underlying4
  a4 := Tryz.isAgg4
  z4 := Tryz.sizeOf4
  v4 := Tryz.zeroValue4
  t9 := Tryz.underlying9
  a9 := Tryz.isAgg9
  z9 := Tryz.sizeOf9
  v9 := Tryz.zeroValue9
  t20 := Tryz.underlying20
  a20 := Tryz.isAgg20
  z20 := Tryz.sizeOf20
  v20 := Tryz.zeroValue20
  t37 := Tryz.underlying22
  a37 := Tryz.isAgg22
  z37 := Tryz.sizeOf22
  v37 := Tryz.zeroValue22
  t70 := Tryz.underlying131
  a70 := Tryz.isAgg131
  z70 := Tryz.sizeOf131
  v70 := Tryz.zeroValue131
  t72 := Tryz.underlying133
  a72 := Tryz.isAgg133
  z72 := Tryz.sizeOf133
  v72 := Tryz.zeroValue133
  t75 := Tryz.underlying135
  a75 := Tryz.isAgg135
  z75 := Tryz.sizeOf135
  v75 := Tryz.zeroValue135
  t164 := Tryz.underlying169
  a164 := Tryz.isAgg169
  z164 := Tryz.sizeOf169
  v164 := Tryz.zeroValue169
theorem Tryz.lays166X : Builder.Extra Tryz.prog Tryz.lays166_ren where
  sizeBuilder := by kernel_rfl
  liesBuilder := by kernel_rfl
  t5 := by kernel_rfl
  a5 := fun w => by kernel_rfl
  z5 := fun w => by kernel_rfl
  v5 := fun w => by kernel_rfl
  infoByte := by kernel_rfl
  cellsByte := by kernel_rfl
  sizeByte := by kernel_rfl
  neB5 := by decide

def Tryz.lays169_ren : Go.Shelf.Ren := ⟨fun | 169 => 99 | n => n, fun | 37 => 22 | 70 => 131 | 72 => 133 | 127 => 155 | n => n, fun n => n⟩
theorem Tryz.lays169 : Lays.n169 Tryz.prog Tryz.lays169_ren where
  mixed := by kernel_rfl
  f169 := Tryz.func99.trans (congrArg some (by kernel_rfl))
  t0 := Tryz.underlying0
  a0 := Tryz.isAgg0
  z0 := Tryz.sizeOf0
  v0 := Tryz.zeroValue0
  t3 := Tryz.underlying3
  a3 := Tryz.isAgg3
  z3 := Tryz.sizeOf3
  v3 := Tryz.zeroValue3
  t9 := Tryz.underlying9
  a9 := Tryz.isAgg9
  z9 := Tryz.sizeOf9
  v9 := Tryz.zeroValue9
  t37 := Tryz.underlying22
  a37 := Tryz.isAgg22
  z37 := Tryz.sizeOf22
  v37 := Tryz.zeroValue22
  t70 := Tryz.underlying131
  a70 := Tryz.isAgg131
  z70 := Tryz.sizeOf131
  v70 := Tryz.zeroValue131
  t72 := Tryz.underlying133
  a72 := Tryz.isAgg133
  z72 := Tryz.sizeOf133
  v72 := Tryz.zeroValue133
  t127 := Tryz.underlying155
  a127 := Tryz.isAgg155
  z127 := Tryz.sizeOf155
  v127 := Tryz.zeroValue155
theorem Tryz.lays169X : Builder.Extra Tryz.prog Tryz.lays169_ren where
  sizeBuilder := by kernel_rfl
  liesBuilder := by kernel_rfl
  t5 := by kernel_rfl
  a5 := fun w => by kernel_rfl
  z5 := fun w => by kernel_rfl
  v5 := fun w => by kernel_rfl
  infoByte := by kernel_rfl
  cellsByte := by kernel_rfl
  sizeByte := by kernel_rfl
  neB5 := by decide

end Go.Proofs
set_option linter.unusedVariables false
set_option linter.unusedSimpArgs false
set_option maxRecDepth 100000
set_option maxHeartbeats 0
namespace Go.Proofs.YtmbdcehmeiiaoaaGreatDoor
open Go.Sy Go.RowKit
abbrev e61A (X : FReader) (A0 : Option Addr) (C0 : Nat) : List Value := [str X.Reader.Row, i6 X.Reader.At, i6 X.Reader.Code, y8 X.Reader.c.last, i6 X.Reader.c.n, i6 X.f.ID, .bool X.f.Long, .bool X.f.Fast, .bool X.f.Remote, i6 X.f.Size, .slice A0 X.f.Data.length C0]
theorem bread_walk (u0 : List UInt8)  (Z : Fz) (w : World)  (hZ : Z.on w) {K : Int → Prop} (hp : bread_vc u0 K) : Calls Tryz.prog 67 #[str u0] w fun e w' => ∃ r : Int, e = .returned (y6 r) ∧ K r ∧ Below w.heap.size w w' := by
 refine enter0 Tryz.func67 rfl rfl (by kernel_rfl) ?_; intro U j; have d := Mem.start w Z hZ; have V := Fz.le.refl Z
 refine sqB j d [] [] [] ?_; intro W k; clear j
 refine sqB k d [] [] [(3, y6 0)] ?_; intro X l; clear k
 refine wp_seq ?_
 refine sqB l d [] [] [(6, i6 (u0.length : Int)), (7, i6 0)] ?_; intro m n; clear l
 refine wp_block ?_
 have o : Fr 20 [] [⟨0, [], str u0⟩, ⟨3, [], y6 0⟩, ⟨6, [], i6 (u0.length : Int)⟩, ⟨7, [], i6 0⟩] m := n.reg; clear n
 have p : Fr 20 [] [⟨0, [], str u0⟩, ⟨3, [], y6 0⟩, ⟨6, [], i6 (u0.length : Int)⟩, ⟨7, [], i6 0⟩] m := o.reg; clear o
 obtain ⟨F, G, H, I⟩ := hp
 refine lp (ι := Int × Int) (fun s => [⟨0, [], str u0⟩, ⟨3, [], y6 s.1⟩, ⟨6, [], i6 (u0.length : Int)⟩, ⟨7, [], i6 s.2⟩]) (fun s => []) (fun s => Z) (fun s => F s.1 s.2) (fun s => G s.1 s.2) ⟨0, 0⟩ H (by exact p.reg) (by exact d) ?_
 rintro ⟨b, a⟩ J L M u v
 have x : Fr 20 [] [⟨0, [], str u0⟩, ⟨3, [], y6 b⟩, ⟨6, [], i6 (u0.length : Int)⟩, ⟨7, [], i6 a⟩] L := u; clear u p
 have c : Mem w.heap.size [] w Z [] Z M := v; clear v d
 have g := I b a J
 refine sqB x c [] [] [(8, .bool (decide (a < (u0.length : Int))))] ?_; intro Y f; clear x
 refine wp_seq ?_
 refine cd f (t := decide (a < (u0.length : Int))) (by kernel_rfl) (fun h => ?_) (fun h => ?_)
 ·
  have N := g.1 h; clear g
  refine wp_skip ?_
  refine thn ?_
  refine wp_seq ?_
  refine wp_block ?_
  refine sqB f c [] [] [(4, i6 a)] ?_; intro aa y; clear f
  refine rgH ?_; intro O z
  refine bt y c 4 [] [] [(11, y6 (bShl .u64 b 1)), (12, str u0), (13, i6 a)] ?_; intro ab A; clear y
  obtain ⟨P, Q⟩ := N
  obtain ⟨i, B⟩ : ∃ q, u0[a.toNat]? = some q := ⟨_, List.getElem?_eq_getElem (by omega)⟩; have C := Q i B
  refine si A .i64 P.1 B ?_; intro ac D; clear A
  refine bt D c 4 [] [] [(3, y6 (bOr .u64 (bShl .u64 b 1) (wu64 (w8 ((i.toNat : Int) - 48)))))] ?_; intro ad E; clear D
  refine nlH (z _ _ ?_); clear z O
  refine ibn ?_
  refine thn ?_
  refine rgB E c [] [] [(7, i6 (w64 (a + 1)))] ?_; intro ae R; clear E
  refine rd ?_
  exact ⟨⟨bOr .u64 (bShl .u64 b 1) (wu64 (w8 ((i.toNat : Int) - 48))), w64 (a + 1)⟩, C.1, C.2, (R.reg).anyβ _ (by kernel_rfl), c.keep (List.Sublist.slnil)⟩
 have S := g.2 h; clear g
 refine wp_exit ?_
 refine thx ?_
 refine thx ?_
 refine ibx ?_
 refine thn ?_
 refine sqB f c [] [] [(2, y6 b)] ?_; intro af T; clear f
 refine wp_ret ?_
 refine ra1 T (y6 b) ?_
 exact ⟨b, rfl, S, c.below⟩

theorem bwrite_walk (u0 : Int) (u1 : Int)  (Z : Fz) (w : World)  (hZ : Z.on w) {K : (List UInt8) → Prop} (hp : bwrite_vc u0 u1 K) : Calls Tryz.prog 71 #[y6 u0, i6 u1] w fun e w' => ∃ r : (List UInt8), e = .returned (str r) ∧ K r ∧ Below w.heap.size w w' := by
 refine enter0 Tryz.func71 rfl rfl (by kernel_rfl) ?_; intro a0 q; have l := Mem.start w Z hZ; have aw := Fz.le.refl Z
 refine sqB q l [] [] [] ?_; intro a2 v; clear q
 refine sqH ?_; intro V x
 refine s1 v 7 (i6 u1) ?_; intro a5 y; clear v
 obtain ⟨ax, W⟩ := hp
 refine mks y l (T := t8) u1 u1 (k := .i64) (k' := .i64) (e := 5) (bytes := 1) (zs := [y8 0]) (z := 0) (by simp only [lim]; omega) (nog rfl _) rfl (by kernel_rfl) rfl (by kernel_rfl) (by kernel_rfl) (by kernel_rfl) (by kernel_rfl) rfl ?_; intro b ay X A B; clear y l
 have m : Mem w.heap.size [] w Z [.own t8 5 (sm b) u1.toNat (List.replicate u1.toNat (0 : Int))] Z X := B; clear B
 refine s1 A 5 (.slice (sm b) (List.replicate u1.toNat (0 : Int)).length u1.toNat) ?_; intro az C; clear A
 refine nlH (x _ _ ?_); clear x V
 refine wp_seq ?_
 refine sqB C m [] [] [(9, i6 u1), (10, i6 0)] ?_; intro D E; clear C
 refine wp_block ?_
 have F : Fr 28 [] [⟨0, [], y6 u0⟩, ⟨1, [], i6 u1⟩, ⟨5, [], .slice (sm b) (List.replicate u1.toNat (0 : Int)).length u1.toNat⟩, ⟨9, [], i6 u1⟩, ⟨10, [], i6 0⟩] D := E.reg; clear E
 have G : Fr 28 [] [⟨0, [], y6 u0⟩, ⟨1, [], i6 u1⟩, ⟨5, [], .slice (sm b) (List.replicate u1.toNat (0 : Int)).length u1.toNat⟩, ⟨9, [], i6 u1⟩, ⟨10, [], i6 0⟩] D := F.reg; clear F
 obtain ⟨Y, aa, ab, ac⟩ := W
 refine lp (ι := Int × Int × (List Int)) (fun s => [⟨0, [], y6 s.1⟩, ⟨1, [], i6 u1⟩, ⟨5, [], .slice (sm b) s.2.2.length u1.toNat⟩, ⟨9, [], i6 u1⟩, ⟨10, [], i6 s.2.1⟩]) (fun s => [.own t8 5 (sm b) u1.toNat s.2.2]) (fun s => Z) (fun s => Y s.1 s.2.1 s.2.2) (fun s => aa s.1 s.2.1 s.2.2) ⟨u0, 0, (List.replicate u1.toNat (0 : Int))⟩ ab (by exact G.reg) (by exact m) ?_
 rintro ⟨d, a, c⟩ ad ae af H I
 have J : Fr 28 [] [⟨0, [], y6 d⟩, ⟨1, [], i6 u1⟩, ⟨5, [], .slice (sm b) c.length u1.toNat⟩, ⟨9, [], i6 u1⟩, ⟨10, [], i6 a⟩] ae := H; clear H G
 have f : Mem w.heap.size [] w Z [.own t8 5 (sm b) u1.toNat c] Z af := I; clear I m
 have i := ac d a c ad
 refine sqB J f [] [] [(11, .bool (decide (a < u1)))] ?_; intro aA h; clear J
 refine wp_seq ?_
 refine cd h (t := decide (a < u1)) (by kernel_rfl) (fun n => ?_) (fun n => ?_)
 ·
  have ag := i.1 n; clear i
  refine wp_skip ?_
  refine thn ?_
  refine wp_seq ?_
  refine wp_block ?_
  refine sqB h f [] [] [(6, i6 a)] ?_; intro aB L; clear h
  refine sqH ?_; intro ah M
  refine bt L f 9 [] [] [(13, .slice (sm b) c.length u1.toNat), (17, i6 (w64 ((w64 (u1 - 1)) - a))), (21, y8 (w8 (48 + (w8 (bAnd .u64 d 1)))))] ?_; intro aC N; clear L
  obtain ⟨ai, O⟩ := ag
  refine ixo N f 0 (T := t8) (xs := c) (w64 ((w64 (u1 - 1)) - a)) ai (k := .i64) (e := 5) (bytes := 1) (nog rfl _) rfl (by kernel_rfl) rfl (by kernel_rfl) (by kernel_rfl) rfl (by kernel_rfl) ?_; intro aj ak al j; clear N
  obtain rfl : b = aj := by simpa using al
  refine so j f 0 (T := t8) (xs := c) (w64 ((w64 (u1 - 1)) - a)).toNat (w8 (48 + (w8 (bAnd .u64 d 1)))) (u := y8 (w8 (48 + (w8 (bAnd .u64 d 1))))) (nog rfl _) rfl rfl (by kernel_rfl) rfl (by kernel_rfl) rfl (by kernel_rfl) (by first | omega | (simp only [List.length_set] at *; omega)) rfl ?_; intro am P; clear f
  have Q : Fr 28 [] [⟨0, [], y6 d⟩, ⟨1, [], i6 u1⟩, ⟨5, [], .slice (sm b) (c.set (w64 ((w64 (u1 - 1)) - a)).toNat (w8 (48 + (w8 (bAnd .u64 d 1))))).length u1.toNat⟩, ⟨6, [], i6 a⟩, ⟨9, [], i6 u1⟩, ⟨10, [], i6 a⟩, ⟨11, [], .bool (decide (a < u1))⟩, ⟨13, [], .slice (sm b) (c.set (w64 ((w64 (u1 - 1)) - a)).toNat (w8 (48 + (w8 (bAnd .u64 d 1))))).length u1.toNat⟩, ⟨17, [], i6 (w64 ((w64 (u1 - 1)) - a))⟩, ⟨21, [], y8 (w8 (48 + (w8 (bAnd .u64 d 1))))⟩, ⟨22, [], .pointer (some ⟨b, (w64 ((w64 (u1 - 1)) - a)).toNat * 1, none⟩)⟩] ak := by (try simp only [List.length_set] at j); (try simp only [List.length_set]); exact j.reg
  clear j
  have o : Mem w.heap.size [] w Z [.own t8 5 (sm b) u1.toNat (c.set (w64 ((w64 (u1 - 1)) - a)).toNat (w8 (48 + (w8 (bAnd .u64 d 1)))))] Z am := P; clear P
  refine nlH (M _ _ ?_); clear M ah
  refine rgB Q o [] [] [(0, y6 (bShr .u64 d 1))] ?_; intro aD R; clear Q
  refine ibn ?_
  refine thn ?_
  refine rgB R o [] [] [(10, i6 (w64 (a + 1)))] ?_; intro aE an; clear R
  refine rd ?_
  exact ⟨⟨bShr .u64 d 1, w64 (a + 1), c.set (w64 ((w64 (u1 - 1)) - a)).toNat (w8 (48 + (w8 (bAnd .u64 d 1))))⟩, O.1, O.2, (an.reg).anyβ _ (by kernel_rfl), o.keep (List.Sublist.cons_cons _ (List.Sublist.slnil))⟩
 have ap := i.2 n; clear i
 refine wp_exit ?_
 refine thx ?_
 refine thx ?_
 refine ibx ?_
 refine thn ?_
 refine sqH ?_; intro aq S
 refine s1 h 26 (.slice (sm b) c.length u1.toNat) ?_; intro aF p; clear h
 refine st p (str (bstr c)) (nog rfl _) rfl (by kernel_rfl) ((by obtain ⟨Z9, aG, ar, au⟩ := f.lend 0 rfl; exact bstr_op p (g := []) (e := 5) (ao := (sm b)) (cap := u1.toNat) (xs := c) rfl (by kernel_rfl) (by kernel_rfl) (by kernel_rfl) (by kernel_rfl)  au ar rfl)) ?_; intro aH U; clear p
 refine s1 U 4 (str (bstr c)) ?_; intro aI av; clear U
 refine nlH (S _ _ ?_); clear S aq
 refine wp_ret ?_
 refine ra1 av (str (bstr c)) ?_
 exact ⟨bstr c, rfl, ap, f.below⟩

theorem bcheck_walk (u0 : List UInt8)  (Z : Fz) (w : World)  (hZ : Z.on w) {K : Int → Prop} (hp : bcheck_vc u0 K) : Calls Tryz.prog 31 #[str u0] w fun e w' => ∃ r : Int, e = .returned (i6 r) ∧ K r ∧ Below w.heap.size w w' := by
 refine enter0 Tryz.func31 rfl rfl (by kernel_rfl) ?_; intro z i; have a := Mem.start w Z hZ; have A := Fz.le.refl Z
 refine sqB i a [] [] [] ?_; intro B j; clear i
 refine wp_seq ?_
 refine sqB j a [] [] [(5, .bool (decide ((u0.length : Int) > 1000)))] ?_; intro C b; clear j
 refine cd b (t := decide ((u0.length : Int) > 1000)) (by kernel_rfl) (fun g => ?_) (fun g => ?_)
 ·
  have n := hp.1 g; clear hp
  refine sqB b a [] [] [(2, i6 2)] ?_; intro D o; clear b
  refine wp_ret ?_
  refine thr ?_
  refine ra1 o (i6 2) ?_
  exact ⟨2, rfl, n, a.below⟩
 have p := hp.2 g; clear hp
 refine wp_skip ?_
 refine thn ?_
 refine wp_seq ?_
 refine sqH ?_; intro q k
 refine s1 b 6 (str u0) ?_; intro E l; clear b
 obtain ⟨s, d⟩ := p
 refine fc l a (trim_fun u0 ([48, 49] : List UInt8) s _ _ a.fz) ?_; intro F G m f; clear l a
 refine sc m .neq (.bool ((trimS u0 ([48, 49] : List UInt8)) != ([] : List UInt8))) ?_; intro H c; clear m
 refine nlH (k _ _ ?_); clear k q
 refine cd c (t := (trimS u0 ([48, 49] : List UInt8)) != ([] : List UInt8)) (by kernel_rfl) (fun h => ?_) (fun h => ?_)
 ·
  have u := d.1 h; clear d
  refine sqB c f [] [] [(2, i6 4)] ?_; intro I v; clear c
  refine wp_ret ?_
  refine thr ?_
  refine ra1 v (i6 4) ?_
  exact ⟨4, rfl, u, f.below⟩
 have x := d.2 h; clear d
 refine wp_skip ?_
 refine thn ?_
 refine sqB c f [] [] [(2, i6 0)] ?_; intro J y; clear c
 refine wp_ret ?_
 refine ra1 y (i6 0) ?_
 exact ⟨0, rfl, x, f.below⟩

theorem smost_walk (u0 : Int)  (Z : Fz) (w : World)  (hZ : Z.on w) {K : (Int × Int) → Prop} (hp : smost_vc u0 K) : Calls Tryz.prog 62 #[i6 u0] w fun e w' => ∃ r : Int × Int, e = .returned (.tuple #[i6 r.1, i6 r.2]) ∧ K r ∧ Below w.heap.size w w' := by
 refine enter0 Tryz.func62 rfl rfl (by kernel_rfl) ?_; intro p h; have a := Mem.start w Z hZ; have q := Fz.le.refl Z
 refine sqB h a [] [] [] ?_; intro s i; clear h
 refine wp_seq ?_
 refine sqB i a [] [] [(9, .bool ((decide (u0 < 0)) || (decide (u0 > 1000))))] ?_; intro u b; clear i
 refine cd b (t := (decide (u0 < 0)) || (decide (u0 > 1000))) (by kernel_rfl) (fun f => ?_) (fun f => ?_)
 ·
  have j := hp.1 f; clear hp
  refine sqB b a [] [] [(2, i6 0), (3, i6 3)] ?_; intro v k; clear b
  refine wp_ret ?_
  refine thr ?_
  refine ra2 k (.tuple #[i6 0, i6 3]) ?_
  exact ⟨(0, 3), rfl, j, a.below⟩
 have d := hp.2 f; clear hp
 refine wp_skip ?_
 refine thn ?_
 refine wp_seq ?_
 refine sqB b a [] [] [(11, .bool (u0 == 0))] ?_; intro x c; clear b
 refine cd c (t := u0 == 0) (by kernel_rfl) (fun g => ?_) (fun g => ?_)
 ·
  have l := d.1 g; clear d
  refine sqB c a [] [] [(2, i6 0), (3, i6 0)] ?_; intro y m; clear c
  refine wp_ret ?_
  refine thr ?_
  refine ra2 m (.tuple #[i6 0, i6 0]) ?_
  exact ⟨(0, 0), rfl, l, a.below⟩
 have n := d.2 g; clear d
 refine wp_skip ?_
 refine thn ?_
 refine sqB c a [] [] [(2, i6 (w64 (u0 + (w64 ((w64 (u0 - 1)).tdiv 4))))), (3, i6 0)] ?_; intro z o; clear c
 refine wp_ret ?_
 refine ra2 o (.tuple #[i6 (w64 (u0 + (w64 ((w64 (u0 - 1)).tdiv 4)))), i6 0]) ?_
 exact ⟨(w64 (u0 + (w64 ((w64 (u0 - 1)).tdiv 4))), 0), rfl, n, a.below⟩
theorem smost_fun (u0 : Int)  (Z : Fz) (w : World)  (hZ : Z.on w) : Calls Tryz.prog 62 #[i6 u0] w fun e w' => e = .returned (.tuple #[i6 (smost u0).1, i6 (smost u0).2]) ∧ Below w.heap.size w w' :=
  (smost_walk u0  Z w  hZ (smost_ok u0)).mono fun _ _ ⟨r, he, hk, hb⟩ => ⟨by subst hk; exact he, hb⟩

theorem ckinds_walk   (Z : Fz) (w : World)  (hZ : Z.on w) {K : (Kind × Kind × Kind × Kind × Kind) → Prop} (hp : ckinds_vc  K) : Calls Tryz.prog 70 #[] w fun e w' => ∃ r : (Kind × Kind × Kind × Kind × Kind), e = .returned (.agg #[i6 r.1.Size, y6 r.1.Poly, y6 r.1.From, y6 r.1.End, i6 r.2.1.Size, y6 r.2.1.Poly, y6 r.2.1.From, y6 r.2.1.End, i6 r.2.2.1.Size, y6 r.2.2.1.Poly, y6 r.2.2.1.From, y6 r.2.2.1.End, i6 r.2.2.2.1.Size, y6 r.2.2.2.1.Poly, y6 r.2.2.2.1.From, y6 r.2.2.2.1.End, i6 r.2.2.2.2.Size, y6 r.2.2.2.2.Poly, y6 r.2.2.2.2.From, y6 r.2.2.2.2.End]) ∧ K r ∧ Below w.heap.size w w' := by
 refine enter0 Tryz.func70 rfl rfl (by kernel_rfl) ?_; intro q f; have g := Mem.start w Z hZ; have s := Fz.le.refl Z
 refine sqH ?_; intro n h
 refine nw f g pb [i6 0, y6 0, y6 0, y6 0, i6 0, y6 0, y6 0, y6 0, i6 0, y6 0, y6 0, y6 0, i6 0, y6 0, y6 0, y6 0, i6 0, y6 0, y6 0, y6 0] 101 ?_; intro a t u i c; clear f g
 refine nlH (h _ _ ?_); clear h n
 refine sqH ?_; intro o j
 refine bt i c 6 [] [] [(6, .agg #[i6 15, y6 17817, y6 0, y6 0, i6 17, y6 92251, y6 65536, y6 0, i6 21, y6 1058969, y6 1048576, y6 0, i6 8, y6 47, y6 255, y6 255, i6 16, y6 4129, y6 65535, y6 0])] ?_; intro x d; clear i
 refine sx d c 0 [i6 15, y6 17817, y6 0, y6 0, i6 17, y6 92251, y6 65536, y6 0, i6 21, y6 1058969, y6 1048576, y6 0, i6 8, y6 47, y6 255, y6 255, i6 16, y6 4129, y6 65535, y6 0] 0 ?_; intro p l; clear c
 have m : Mem w.heap.size [] w Z [.row a [i6 15, y6 17817, y6 0, y6 0, i6 17, y6 92251, y6 65536, y6 0, i6 21, y6 1058969, y6 1048576, y6 0, i6 8, y6 47, y6 255, y6 255, i6 16, y6 4129, y6 65535, y6 0] 101] Z p := l; clear l
 refine nlH (j _ _ ?_); clear j o
 refine wp_ret ?_
 refine rt (fn := Tryz.f70) (v := .agg #[i6 15, y6 17817, y6 0, y6 0, i6 17, y6 92251, y6 65536, y6 0, i6 21, y6 1058969, y6 1048576, y6 0, i6 8, y6 47, y6 255, y6 255, i6 16, y6 4129, y6 65535, y6 0]) d (re1c d (fn := Tryz.f70) rfl (ad := ⟨a, 0, none⟩) (by kernel_rfl) (loadVar_run m 0 (b := a) (k := 20) (vs := [i6 15, y6 17817, y6 0, y6 0, i6 17, y6 92251, y6 65536, y6 0, i6 21, y6 1058969, y6 1048576, y6 0, i6 8, y6 47, y6 255, y6 255, i6 16, y6 4129, y6 65535, y6 0]) (ty := 101) rfl (by kernel_rfl) (by kernel_rfl)) ) ?_
 exact ⟨((⟨15, 17817, 0, 0⟩ : Kind), (⟨17, 92251, 65536, 0⟩ : Kind), (⟨21, 1058969, 1048576, 0⟩ : Kind), (⟨8, 47, 255, 255⟩ : Kind), (⟨16, 4129, 65535, 0⟩ : Kind)), rfl, hp, m.below⟩
theorem ckinds_fun   (Z : Fz) (w : World)  (hZ : Z.on w) : Calls Tryz.prog 70 #[] w fun e w' => e = .returned (.agg #[i6 ckinds.1.Size, y6 ckinds.1.Poly, y6 ckinds.1.From, y6 ckinds.1.End, i6 ckinds.2.1.Size, y6 ckinds.2.1.Poly, y6 ckinds.2.1.From, y6 ckinds.2.1.End, i6 ckinds.2.2.1.Size, y6 ckinds.2.2.1.Poly, y6 ckinds.2.2.1.From, y6 ckinds.2.2.1.End, i6 ckinds.2.2.2.1.Size, y6 ckinds.2.2.2.1.Poly, y6 ckinds.2.2.2.1.From, y6 ckinds.2.2.2.1.End, i6 ckinds.2.2.2.2.Size, y6 ckinds.2.2.2.2.Poly, y6 ckinds.2.2.2.2.From, y6 ckinds.2.2.2.2.End]) ∧ Below w.heap.size w w' :=
  (ckinds_walk   Z w  hZ (ckinds_ok )).mono fun _ _ ⟨r, he, hk, hb⟩ => ⟨by subst hk; exact he, hb⟩

theorem csize_walk (u0 : Int)  (Z : Fz) (w : World)  (hZ : Z.on w) {K : (Int × Int) → Prop} (hp : csize_vc u0 K) : Calls Tryz.prog 63 #[i6 u0] w fun e w' => ∃ r : Int × Int, e = .returned (.tuple #[i6 r.1, i6 r.2]) ∧ K r ∧ Below w.heap.size w w' := by
 refine enter0 Tryz.func63 rfl rfl (by kernel_rfl) ?_; intro P j; have d := Mem.start w Z hZ; have Q := Fz.le.refl Z
 refine sqB j d [] [] [] ?_; intro R k; clear j
 refine wp_seq ?_
 refine sqH ?_; intro G l
 refine s1 k 4 (i6 u0) ?_; intro S n; clear k
 refine s1 n 5 (.bool (decide (u0 < 0))) ?_; intro T o; clear n
 refine s1 o 6 (.bool (decide (u0 < 0))) ?_; intro U p; clear o
 have q := p.atom ((decide (u0 < 0)) == false) (by kernel_rfl); clear p
 refine gp q 7 0 [] (decide (u0 < 0)) (i6 u0) rfl rfl ?_; intro V s; clear q
 refine gcl s d (.agg #[i6 ckinds.1.Size, y6 ckinds.1.Poly, y6 ckinds.1.From, y6 ckinds.1.End, i6 ckinds.2.1.Size, y6 ckinds.2.1.Poly, y6 ckinds.2.1.From, y6 ckinds.2.1.End, i6 ckinds.2.2.1.Size, y6 ckinds.2.2.1.Poly, y6 ckinds.2.2.1.From, y6 ckinds.2.2.1.End, i6 ckinds.2.2.2.1.Size, y6 ckinds.2.2.2.1.Poly, y6 ckinds.2.2.2.1.From, y6 ckinds.2.2.2.1.End, i6 ckinds.2.2.2.2.Size, y6 ckinds.2.2.2.2.Poly, y6 ckinds.2.2.2.2.From, y6 ckinds.2.2.2.2.End]) 70 #[] (m := 0) (cj := []) (bj := decide (u0 < 0)) rfl rfl (by kernel_rfl) rfl (by kernel_rfl) (by kernel_rfl) (by kernel_rfl) (fun _ => by kernel_rfl) (fun hg => ckinds_fun  _ _ d.fz) ?_; intro W X u a; clear s d
 refine gp u 9 0 [] (decide (u0 < 0)) (i6 5) rfl rfl ?_; intro Y y; clear u
 refine gp y 10 0 [] (decide (u0 < 0)) (.bool (decide (u0 ≥ 5))) rfl rfl ?_; intro aa f; clear y
 refine st f (.bool ((decide (u0 < 0)) || (decide (u0 ≥ 5)))) (nog rfl _) rfl (by kernel_rfl) (pk_or f (g := []) (m := 0) (b := decide (u0 < 0)) (v := decide (u0 ≥ 5)) rfl (by kernel_rfl) (by kernel_rfl) (by kernel_rfl) rfl) ?_; intro z c; clear f
 refine nlH (l _ _ ?_); clear l G
 refine cd c (t := (decide (u0 < 0)) || (decide (u0 ≥ 5))) (by kernel_rfl) (fun h => ?_) (fun h => ?_)
 ·
  have H := hp.1 h; clear hp
  have A : Fr 16 [] [] z := c.reg; clear c
  refine sqB A a [] [] [(2, i6 0), (3, i6 8)] ?_; intro ab I; clear A
  refine wp_ret ?_
  refine thr ?_
  refine ra2 I (.tuple #[i6 0, i6 8]) ?_
  exact ⟨(0, 8), rfl, H, a.below⟩
 have J := hp.2 h; clear hp
 refine wp_skip ?_
 refine thn ?_
 have B : Fr 16 [] [⟨0, [], i6 u0⟩] z := c.reg; clear c
 refine sqH ?_; intro L C
 refine fc B a (ckinds_fun  _ _ a.fz) ?_; intro ac ad D E; clear B a
 refine s1 D 13 (i6 u0) ?_; intro ae i; clear D
 obtain ⟨M, N⟩ := J
 have hix : ∀ x : Int, 0 ≤ x ∧ x < 5 → x = 0 ∨ x = 1 ∨ x = 2 ∨ x = 3 ∨ x = 4 := by intro x hx; omega
 refine st i (.agg #[i6 (([ckinds.1.Size, ckinds.2.1.Size, ckinds.2.2.1.Size, ckinds.2.2.2.1.Size, ckinds.2.2.2.2.Size] : List Int).getD u0.toNat 0), y6 (([ckinds.1.Poly, ckinds.2.1.Poly, ckinds.2.2.1.Poly, ckinds.2.2.2.1.Poly, ckinds.2.2.2.2.Poly] : List Int).getD u0.toNat 0), y6 (([ckinds.1.From, ckinds.2.1.From, ckinds.2.2.1.From, ckinds.2.2.2.1.From, ckinds.2.2.2.2.From] : List Int).getD u0.toNat 0), y6 (([ckinds.1.End, ckinds.2.1.End, ckinds.2.2.1.End, ckinds.2.2.2.1.End, ckinds.2.2.2.2.End] : List Int).getD u0.toNat 0)]) (nog rfl _) rfl (by kernel_rfl) ((by generalize u0 = ix at *; rcases hix _ M with rfl | rfl | rfl | rfl | rfl <;> exact p0 i (by kernel_rfl))) ?_; intro af F; clear i
 refine bt F E 3 [] [] [(2, i6 (([ckinds.1.Size, ckinds.2.1.Size, ckinds.2.2.1.Size, ckinds.2.2.2.1.Size, ckinds.2.2.2.2.Size] : List Int).getD u0.toNat 0)), (3, i6 0)] ?_; intro ag O; clear F
 refine nlH (C _ _ ?_); clear C L
 refine wp_ret ?_
 refine ra2 O (.tuple #[i6 (([ckinds.1.Size, ckinds.2.1.Size, ckinds.2.2.1.Size, ckinds.2.2.2.1.Size, ckinds.2.2.2.2.Size] : List Int).getD u0.toNat 0), i6 0]) ?_
 exact ⟨(([ckinds.1.Size, ckinds.2.1.Size, ckinds.2.2.1.Size, ckinds.2.2.2.1.Size, ckinds.2.2.2.2.Size] : List Int).getD u0.toNat 0, 0), rfl, N, E.below⟩
theorem csize_fun (u0 : Int)  (Z : Fz) (w : World)  (hZ : Z.on w) : Calls Tryz.prog 63 #[i6 u0] w fun e w' => e = .returned (.tuple #[i6 (csize u0).1, i6 (csize u0).2]) ∧ Below w.heap.size w w' :=
  (csize_walk u0  Z w  hZ (csize_ok u0)).mono fun _ _ ⟨r, he, hk, hb⟩ => ⟨by subst hk; exact he, hb⟩

theorem ksum_walk (u0 : Kind) (u1 : List UInt8)  (Z : Fz) (w : World)  (hZ : Z.on w) {K : Int → Prop} (hp : ksum_vc u0 u1 K) : Calls Tryz.prog 72 #[.agg #[i6 u0.Size, y6 u0.Poly, y6 u0.From, y6 u0.End], str u1] w fun e w' => ∃ r : Int, e = .returned (y6 r) ∧ K r ∧ Below w.heap.size w w' := by
 refine enter0 Tryz.func72 rfl rfl (by kernel_rfl) ?_; intro a0 p; have u := Mem.start w Z hZ; have ap := Fz.le.refl Z
 refine sqH ?_; intro V v
 refine nw p u pb [i6 u0.Size, y6 u0.Poly, y6 u0.From, y6 u0.End] 100 ?_; intro d a3 aq x f; clear p u
 refine s1 x 4 (y6 0) ?_; intro a7 y; clear x
 refine nlH (v _ _ ?_); clear v V
 refine sqB y f [0] [] [(5, y6 u0.From)] ?_; intro ar z; clear y
 refine sqH ?_; intro W A
 refine bt z f 3 [0] [] [(13, i6 (w64 (u0.Size - 1)))] ?_; intro au m; clear z
 obtain ⟨X, Y⟩ := hp
 refine st m (y6 (bShl .u64 1 (w64 (u0.Size - 1)))) (nog rfl _) rfl (by kernel_rfl) (shl_run m (g := []) (k' := .i64) rfl (by kernel_rfl) (by kernel_rfl) X rfl) ?_; intro av B; clear m
 refine s1 B 6 (y6 (bShl .u64 1 (w64 (u0.Size - 1)))) ?_; intro aw C; clear B
 refine nlH (A _ _ ?_); clear A W
 refine wp_seq ?_
 refine sqB C f [] [] [(16, i6 (u1.length : Int)), (17, i6 0)] ?_; intro D E; clear C
 refine wp_block ?_
 have F : Fr 45 [] [⟨1, [], str u1⟩, ⟨2, [], pt d 0⟩, ⟨5, [], y6 u0.From⟩, ⟨6, [], y6 (bShl .u64 1 (w64 (u0.Size - 1)))⟩, ⟨16, [], i6 (u1.length : Int)⟩, ⟨17, [], i6 0⟩] D := E.reg; clear E
 have G : Fr 45 [] [⟨1, [], str u1⟩, ⟨2, [], pt d 0⟩, ⟨5, [], y6 u0.From⟩, ⟨6, [], y6 (bShl .u64 1 (w64 (u0.Size - 1)))⟩, ⟨16, [], i6 (u1.length : Int)⟩, ⟨17, [], i6 0⟩] D := F.reg; clear F
 obtain ⟨aa, ab, ac, ad⟩ := Y
 refine lp (ι := Int × Int) (fun s => [⟨1, [], str u1⟩, ⟨2, [], pt d 0⟩, ⟨5, [], y6 s.1⟩, ⟨6, [], y6 (bShl .u64 1 (w64 (u0.Size - 1)))⟩, ⟨16, [], i6 (u1.length : Int)⟩, ⟨17, [], i6 s.2⟩]) (fun s => [.row d [i6 u0.Size, y6 u0.Poly, y6 u0.From, y6 u0.End] 100]) (fun s => Z) (fun s => aa s.1 s.2) (fun s => ab s.1 s.2) ⟨u0.From, 0⟩ ac (by exact G.reg) (by exact f) ?_
 rintro ⟨a, c⟩ ae af ag H I
 have J : Fr 45 [] [⟨1, [], str u1⟩, ⟨2, [], pt d 0⟩, ⟨5, [], y6 a⟩, ⟨6, [], y6 (bShl .u64 1 (w64 (u0.Size - 1)))⟩, ⟨16, [], i6 (u1.length : Int)⟩, ⟨17, [], i6 c⟩] af := H; clear H G
 have b : Mem w.heap.size [] w Z [.row d [i6 u0.Size, y6 u0.Poly, y6 u0.From, y6 u0.End] 100] Z ag := I; clear I f
 have j := ad a c ae
 refine sqB J b [] [] [(18, .bool (decide (c < (u1.length : Int))))] ?_; intro ax h; clear J
 refine wp_seq ?_
 refine cd h (t := decide (c < (u1.length : Int))) (by kernel_rfl) (fun n => ?_) (fun n => ?_)
 ·
  have ah := j.1 n; clear j
  refine wp_skip ?_
  refine thn ?_
  refine wp_seq ?_
  refine wp_block ?_
  refine sqB h b [] [] [(7, i6 c)] ?_; intro ay L; clear h
  refine sqH ?_; intro ai M
  refine bt L b 6 [] [] [(23, .bool ((bAnd .u64 a (bShl .u64 1 (w64 (u0.Size - 1)))) != 0)), (24, str u1), (25, i6 c)] ?_; intro az N; clear L
  obtain ⟨aj, ak⟩ := ah
  obtain ⟨k, O⟩ : ∃ q, u1[c.toNat]? = some q := ⟨_, List.getElem?_eq_getElem (by omega)⟩; have l := ak k O
  refine si N .i64 aj.1 O ?_; intro aA P; clear N
  refine bt P b 3 [] [] [(8, .bool (((bAnd .u64 a (bShl .u64 1 (w64 (u0.Size - 1)))) != 0) != ((k.toNat : Int) == 49)))] ?_; intro aB Q; clear P
  refine nlH (M _ _ ?_); clear M ai
  refine sqB Q b [] [] [(5, y6 (bAnd .u64 (bShl .u64 a 1) (wu64 ((bShl .u64 (bShl .u64 1 (w64 (u0.Size - 1))) 1) - 1))))] ?_; intro aC R; clear Q
  refine sqB R b [] [] [(35, .bool (((bAnd .u64 a (bShl .u64 1 (w64 (u0.Size - 1)))) != 0) != ((k.toNat : Int) == 49)))] ?_; intro aD i; clear R
  refine cd i (t := ((bAnd .u64 a (bShl .u64 1 (w64 (u0.Size - 1)))) != 0) != ((k.toNat : Int) == 49)) (by kernel_rfl) (fun o => ?_) (fun o => ?_)
  ·
   have S := l.1 o; clear l
   refine rgB i b [0] [] [(5, y6 (bXor .u64 (bAnd .u64 (bShl .u64 a 1) (wu64 ((bShl .u64 (bShl .u64 1 (w64 (u0.Size - 1))) 1) - 1))) u0.Poly))] ?_; intro aE T; clear i
   refine ibn ?_
   refine thn ?_
   refine rgB T b [] [] [(17, i6 (w64 (c + 1)))] ?_; intro aF al; clear T
   refine rd ?_
   exact ⟨⟨bXor .u64 (bAnd .u64 (bShl .u64 a 1) (wu64 ((bShl .u64 (bShl .u64 1 (w64 (u0.Size - 1))) 1) - 1))) u0.Poly, w64 (c + 1)⟩, S.1, S.2, (al.reg).anyβ _ (by kernel_rfl), b.keep (List.Sublist.cons_cons _ (List.Sublist.slnil))⟩
  have U := l.2 o; clear l
  refine wp_skip ?_
  refine ibn ?_
  refine thn ?_
  refine rgB i b [] [] [(17, i6 (w64 (c + 1)))] ?_; intro aG am; clear i
  refine rd ?_
  exact ⟨⟨bAnd .u64 (bShl .u64 a 1) (wu64 ((bShl .u64 (bShl .u64 1 (w64 (u0.Size - 1))) 1) - 1)), w64 (c + 1)⟩, U.1, U.2, (am.reg).anyβ _ (by kernel_rfl), b.keep (List.Sublist.cons_cons _ (List.Sublist.slnil))⟩
 have an := j.2 n; clear j
 refine wp_exit ?_
 refine thx ?_
 refine thx ?_
 refine ibx ?_
 refine thn ?_
 refine sqB h b [0] [] [(4, y6 (bXor .u64 a u0.End))] ?_; intro aH ao; clear h
 refine wp_ret ?_
 refine ra1 ao (y6 (bXor .u64 a u0.End)) ?_
 exact ⟨bXor .u64 a u0.End, rfl, an, b.below⟩

theorem cnext_walk (u0 : Counter) (u1 : Int) (b1 : Nat) (B : Nat) (w0 : World) (Z0 : Fz) (Rr : List Res) (Z : Fz) (w : World) (hM0 : Mem B [] w0 Z0 ((.row b1 [y8 u0.last, i6 u0.n] 57) :: Rr) Z w) (hZ : Z.on w) {K : (Int × Bool × Counter) → Prop} (hp : cnext_vc u0 u1 K) : Calls Tryz.prog 69 #[pt b1 0, y8 u1] w fun e w' => ∃ (r : Int × Bool × Counter) (Z' : Fz), e = .returned (.tuple #[y8 r.1, .bool r.2.1]) ∧ K r ∧ Fz.le Z Z' ∧ Mem B [] w0 Z0 ((.row b1 [y8 r.2.2.last, i6 r.2.2.n] 57) :: Rr) Z' w' := by
 refine enter0 Tryz.func69 rfl rfl (by kernel_rfl) ?_; intro a0 l; have m := Fz.le.refl Z
 refine sqB l hM0 [] [] [] ?_; intro a5 o; clear l
 refine wp_seq ?_
 refine sqB o hM0 [0] [] [(11, .bool (u1 == u0.last))] ?_; intro ah a; clear o
 refine cd a (t := u1 == u0.last) (by kernel_rfl) (fun c => ?_) (fun c => ?_)
 ·
  have S := hp.1 c; clear hp
  refine rgH ?_; intro T p
  refine bt a hM0 7 [0] [] [(16, i6 (w64 (u0.n + 1))), (18, pt b1 1)] ?_; intro U d; clear a
  refine sx d hM0 0 [y8 u0.last, i6 (w64 (u0.n + 1))] 1 ?_; intro V q; clear hM0
  have s : Mem B [] w0 Z0 ((.row b1 [y8 u0.last, i6 (w64 (u0.n + 1))] 57) :: Rr) Z V := q; clear q
  refine nlH (p _ _ ?_); clear p T
  refine thn ?_
  have u : Fr 33 [] [⟨0, [], pt b1 0⟩, ⟨1, [], y8 u1⟩] U := d.reg; clear d
  refine sqQH mixed (by kernel_rfl) s ?_; intro W v
  refine q1 u 26 (y8 u1) ?_; intro ai x; clear u
  refine q1 x 27 (y8 (w8 (97 - u1))) ?_; intro aj y; clear x
  refine q1 y 28 (pt b1 0) ?_; intro ak z; clear y
  refine q1 z 29 (pt b1 0) ?_; intro al A; clear z
  refine q1 A 30 (pt b1 1) ?_; intro am f; clear A
  refine qst f (i6 (w64 (u0.n + 1))) (nog rfl _) rfl (by kernel_rfl) (fun v57 hC => ld f hC 0 (g := []) (b := b1) (off := 1) (cs := [y8 u0.last, i6 (w64 (u0.n + 1))]) (ty := 57) rfl (by kernel_rfl) (by kernel_rfl) (by kernel_rfl) (by kernel_rfl) rfl) ?_; intro an C; clear f
  refine q1 C 32 (.bool ((w64 (u0.n + 1)) == 5)) ?_; intro ao D; clear C
  refine q1 D 4 (y8 (w8 (97 - u1))) ?_; intro ap E; clear D
  refine q1 E 5 (.bool ((w64 (u0.n + 1)) == 5)) ?_; intro aq X; clear E
  refine qnl (v _ ?_); clear v W; intro ar Y; clear s
  refine wp_ret ?_
  refine ra2 X (.tuple #[y8 (w8 (97 - u1)), .bool ((w64 (u0.n + 1)) == 5)]) ?_
  exact ⟨(w8 (97 - u1), (w64 (u0.n + 1)) == 5, (⟨u0.last, w64 (u0.n + 1)⟩ : Counter)), Z, rfl, S, m, Y.keep (List.Sublist.cons_cons _ (List.Sublist.refl _))⟩
 have aa := hp.2 c; clear hp
 refine rgH ?_; intro ab F
 refine bt a hM0 5 [] [] [(20, pt b1 0), (21, y8 u1), (23, pt b1 0)] ?_; intro au h; clear a
 refine sx h hM0 0 [y8 u1, i6 u0.n] 0 ?_; intro av i; clear hM0
 refine bt h i 2 [] [] [(25, pt b1 1)] ?_; intro ac j; clear h
 refine sx j i 0 [y8 u1, i6 1] 1 ?_; intro ad G; clear i
 have H : Mem B [] w0 Z0 ((.row b1 [y8 u1, i6 1] 57) :: Rr) Z ad := G; clear G
 refine nlH (F _ _ ?_); clear F ab
 refine thn ?_
 have I : Fr 33 [] [⟨0, [], pt b1 0⟩, ⟨1, [], y8 u1⟩] ac := j.reg; clear j
 refine sqQH mixed (by kernel_rfl) H ?_; intro ae J
 refine q1 I 26 (y8 u1) ?_; intro aw L; clear I
 refine q1 L 27 (y8 (w8 (97 - u1))) ?_; intro ax M; clear L
 refine q1 M 28 (pt b1 0) ?_; intro ay N; clear M
 refine q1 N 29 (pt b1 0) ?_; intro az O; clear N
 refine q1 O 30 (pt b1 1) ?_; intro aA k; clear O
 refine qst k (i6 1) (nog rfl _) rfl (by kernel_rfl) (fun v109 hC => ld k hC 0 (g := []) (b := b1) (off := 1) (cs := [y8 u1, i6 1]) (ty := 57) rfl (by kernel_rfl) (by kernel_rfl) (by kernel_rfl) (by kernel_rfl) rfl) ?_; intro aB P; clear k
 refine q1 P 32 (.bool false) ?_; intro aC Q; clear P
 refine q1 Q 4 (y8 (w8 (97 - u1))) ?_; intro aD R; clear Q
 refine q1 R 5 (.bool false) ?_; intro aE af; clear R
 refine qnl (J _ ?_); clear J ae; intro aF ag; clear H
 refine wp_ret ?_
 refine ra2 af (.tuple #[y8 (w8 (97 - u1)), .bool false]) ?_
 exact ⟨(w8 (97 - u1), false, (⟨u1, 1⟩ : Counter)), Z, rfl, aa, m, ag.keep (List.Sublist.cons_cons _ (List.Sublist.refl _))⟩



theorem cnextF_walk (u0 : FReader) (u1 : Int) (b1 : Nat) (ao2 : Option Addr) (cap3 : Nat) (B : Nat) (w0 : World) (Z0 : Fz) (Rr : List Res) (Z : Fz) (w : World) (hs4 : SlR t8 Z ao2 cap3 u0.f.Data) (hM0 : Mem B [] w0 Z0 ((.row b1 [str u0.Reader.Row, i6 u0.Reader.At, i6 u0.Reader.Code, y8 u0.Reader.c.last, i6 u0.Reader.c.n, i6 u0.f.ID, .bool u0.f.Long, .bool u0.f.Fast, .bool u0.f.Remote, i6 u0.f.Size, .slice ao2 u0.f.Data.length cap3] 61) :: Rr) Z w) (hZ : Z.on w) {K : (Int × Bool × FReader) → Prop} (hp : cnextF_vc u0 u1 K) : Calls Tryz.prog 69 #[pt b1 3, y8 u1] w fun e w' => ∃ (r : Int × Bool × FReader) (ao1001 : Option Addr) (cap1002 : Nat) (Z' : Fz), e = .returned (.tuple #[y8 r.1, .bool r.2.1]) ∧ K r ∧ Fz.le Z Z' ∧ SlR t8 Z' ao1001 cap1002 r.2.2.f.Data ∧ Mem B [] w0 Z0 ((.row b1 [str r.2.2.Reader.Row, i6 r.2.2.Reader.At, i6 r.2.2.Reader.Code, y8 r.2.2.Reader.c.last, i6 r.2.2.Reader.c.n, i6 r.2.2.f.ID, .bool r.2.2.f.Long, .bool r.2.2.f.Fast, .bool r.2.2.f.Remote, i6 r.2.2.f.Size, .slice ao1001 r.2.2.f.Data.length cap1002] 61) :: Rr) Z' w' := by
 refine enter0 Tryz.func69 rfl rfl (by kernel_rfl) ?_; intro a0 p; have q := Fz.le.refl Z
 have d := hp (hs4.small); clear hp
 refine sqB p hM0 [] [] [] ?_; intro a9 s; clear p
 refine wp_seq ?_
 refine sqB s hM0 [0] [] [(11, .bool (u1 == u0.Reader.c.last))] ?_; intro ak a; clear s
 refine cd a (t := u1 == u0.Reader.c.last) (by kernel_rfl) (fun h => ?_) (fun h => ?_)
 ·
  have V := d.1 h; clear d
  refine rgH ?_; intro W u
  refine bt a hM0 7 [0] [] [(16, i6 (w64 (u0.Reader.c.n + 1))), (18, pt b1 4)] ?_; intro X i; clear a
  refine sx i hM0 0 [str u0.Reader.Row, i6 u0.Reader.At, i6 u0.Reader.Code, y8 u0.Reader.c.last, i6 (w64 (u0.Reader.c.n + 1)), i6 u0.f.ID, .bool u0.f.Long, .bool u0.f.Fast, .bool u0.f.Remote, i6 u0.f.Size, .slice ao2 u0.f.Data.length cap3] 4 ?_; intro Y v; clear hM0
  have x : Mem B [] w0 Z0 ((.row b1 [str u0.Reader.Row, i6 u0.Reader.At, i6 u0.Reader.Code, y8 u0.Reader.c.last, i6 (w64 (u0.Reader.c.n + 1)), i6 u0.f.ID, .bool u0.f.Long, .bool u0.f.Fast, .bool u0.f.Remote, i6 u0.f.Size, .slice ao2 u0.f.Data.length cap3] 61) :: Rr) Z Y := v; clear v
  refine nlH (u _ _ ?_); clear u W
  refine thn ?_
  have y : Fr 33 [] [⟨0, [], pt b1 3⟩, ⟨1, [], y8 u1⟩] X := i.reg; clear i
  refine sqQH mixed (by kernel_rfl) x ?_; intro aa z
  refine q1 y 26 (y8 u1) ?_; intro al A; clear y
  refine q1 A 27 (y8 (w8 (97 - u1))) ?_; intro am C; clear A
  refine q1 C 28 (pt b1 3) ?_; intro an D; clear C
  refine q1 D 29 (pt b1 3) ?_; intro ao E; clear D
  refine q1 E 30 (pt b1 4) ?_; intro ap j; clear E
  refine qst j (i6 (w64 (u0.Reader.c.n + 1))) (nog rfl _) rfl (by kernel_rfl) (fun v61 hC => ld j hC 0 (g := []) (b := b1) (off := 4) (cs := [str u0.Reader.Row, i6 u0.Reader.At, i6 u0.Reader.Code, y8 u0.Reader.c.last, i6 (w64 (u0.Reader.c.n + 1)), i6 u0.f.ID, .bool u0.f.Long, .bool u0.f.Fast, .bool u0.f.Remote, i6 u0.f.Size, .slice ao2 u0.f.Data.length cap3]) (ty := 61) rfl (by kernel_rfl) (by kernel_rfl) (by kernel_rfl) (by kernel_rfl) rfl) ?_; intro aq F; clear j
  refine q1 F 32 (.bool ((w64 (u0.Reader.c.n + 1)) == 5)) ?_; intro ar G; clear F
  refine q1 G 4 (y8 (w8 (97 - u1))) ?_; intro au H; clear G
  refine q1 H 5 (.bool ((w64 (u0.Reader.c.n + 1)) == 5)) ?_; intro av ab; clear H
  refine qnl (z _ ?_); clear z aa; intro aw ac; clear x
  refine wp_ret ?_
  refine ra2 ab (.tuple #[y8 (w8 (97 - u1)), .bool ((w64 (u0.Reader.c.n + 1)) == 5)]) ?_
  exact ⟨(w8 (97 - u1), (w64 (u0.Reader.c.n + 1)) == 5, (⟨(⟨u0.Reader.Row, u0.Reader.At, u0.Reader.Code, (⟨u0.Reader.c.last, w64 (u0.Reader.c.n + 1)⟩ : Counter)⟩ : Reader), u0.f⟩ : FReader)), ao2, cap3, Z, rfl, V, q, hs4, ac.keep (List.Sublist.cons_cons _ (List.Sublist.refl _))⟩
 have ad := d.2 h; clear d
 refine rgH ?_; intro ae I
 refine bt a hM0 5 [] [] [(20, pt b1 3), (21, y8 u1), (23, pt b1 3)] ?_; intro ax k; clear a
 refine sx k hM0 0 [str u0.Reader.Row, i6 u0.Reader.At, i6 u0.Reader.Code, y8 u1, i6 u0.Reader.c.n, i6 u0.f.ID, .bool u0.f.Long, .bool u0.f.Fast, .bool u0.f.Remote, i6 u0.f.Size, .slice ao2 u0.f.Data.length cap3] 3 ?_; intro ay l; clear hM0
 refine bt k l 2 [] [] [(25, pt b1 4)] ?_; intro af m; clear k
 refine sx m l 0 [str u0.Reader.Row, i6 u0.Reader.At, i6 u0.Reader.Code, y8 u1, i6 1, i6 u0.f.ID, .bool u0.f.Long, .bool u0.f.Fast, .bool u0.f.Remote, i6 u0.f.Size, .slice ao2 u0.f.Data.length cap3] 4 ?_; intro ag J; clear l
 have L : Mem B [] w0 Z0 ((.row b1 [str u0.Reader.Row, i6 u0.Reader.At, i6 u0.Reader.Code, y8 u1, i6 1, i6 u0.f.ID, .bool u0.f.Long, .bool u0.f.Fast, .bool u0.f.Remote, i6 u0.f.Size, .slice ao2 u0.f.Data.length cap3] 61) :: Rr) Z ag := J; clear J
 refine nlH (I _ _ ?_); clear I ae
 refine thn ?_
 have M : Fr 33 [] [⟨0, [], pt b1 3⟩, ⟨1, [], y8 u1⟩] af := m.reg; clear m
 refine sqQH mixed (by kernel_rfl) L ?_; intro ah N
 refine q1 M 26 (y8 u1) ?_; intro az O; clear M
 refine q1 O 27 (y8 (w8 (97 - u1))) ?_; intro aA P; clear O
 refine q1 P 28 (pt b1 3) ?_; intro aB Q; clear P
 refine q1 Q 29 (pt b1 3) ?_; intro aC R; clear Q
 refine q1 R 30 (pt b1 4) ?_; intro aD o; clear R
 refine qst o (i6 1) (nog rfl _) rfl (by kernel_rfl) (fun v113 hC => ld o hC 0 (g := []) (b := b1) (off := 4) (cs := [str u0.Reader.Row, i6 u0.Reader.At, i6 u0.Reader.Code, y8 u1, i6 1, i6 u0.f.ID, .bool u0.f.Long, .bool u0.f.Fast, .bool u0.f.Remote, i6 u0.f.Size, .slice ao2 u0.f.Data.length cap3]) (ty := 61) rfl (by kernel_rfl) (by kernel_rfl) (by kernel_rfl) (by kernel_rfl) rfl) ?_; intro aE S; clear o
 refine q1 S 32 (.bool false) ?_; intro aF T; clear S
 refine q1 T 4 (y8 (w8 (97 - u1))) ?_; intro aG U; clear T
 refine q1 U 5 (.bool false) ?_; intro aH ai; clear U
 refine qnl (N _ ?_); clear N ah; intro aI aj; clear L
 refine wp_ret ?_
 refine ra2 ai (.tuple #[y8 (w8 (97 - u1)), .bool false]) ?_
 exact ⟨(w8 (97 - u1), false, (⟨(⟨u0.Reader.Row, u0.Reader.At, u0.Reader.Code, (⟨u1, 1⟩ : Counter)⟩ : Reader), u0.f⟩ : FReader)), ao2, cap3, Z, rfl, ad, q, hs4, aj.keep (List.Sublist.cons_cons _ (List.Sublist.refl _))⟩

theorem rbitF_walk (u0 : FReader) (b1 : Nat) (ao2 : Option Addr) (cap3 : Nat) (B : Nat) (w0 : World) (Z0 : Fz) (Rr : List Res) (Z : Fz) (w : World) (hs4 : SlR t8 Z ao2 cap3 u0.f.Data) (hM0 : Mem B [] w0 Z0 ((.row b1 [str u0.Reader.Row, i6 u0.Reader.At, i6 u0.Reader.Code, y8 u0.Reader.c.last, i6 u0.Reader.c.n, i6 u0.f.ID, .bool u0.f.Long, .bool u0.f.Fast, .bool u0.f.Remote, i6 u0.f.Size, .slice ao2 u0.f.Data.length cap3] 61) :: Rr) Z w) (hZ : Z.on w) {K : (Int × FReader) → Prop} (hp : rbitF_vc u0 K) : Calls Tryz.prog 68 #[pt b1 0] w fun e w' => ∃ (r : Int × FReader) (ao1001 : Option Addr) (cap1002 : Nat) (Z' : Fz), e = .returned (y8 r.1) ∧ K r ∧ Fz.le Z Z' ∧ SlR t8 Z' ao1001 cap1002 r.2.f.Data ∧ Mem B [] w0 Z0 ((.row b1 [str r.2.Reader.Row, i6 r.2.Reader.At, i6 r.2.Reader.Code, y8 r.2.Reader.c.last, i6 r.2.Reader.c.n, i6 r.2.f.ID, .bool r.2.f.Long, .bool r.2.f.Fast, .bool r.2.f.Remote, i6 r.2.f.Size, .slice ao1001 r.2.f.Data.length cap1002] 61) :: Rr) Z' w' := by
 refine enter0 Tryz.func68 rfl rfl (by kernel_rfl) ?_; intro a0 C; have m := Fz.le.refl Z
 have j := hp (hs4.small); clear hp
 refine sqB C hM0 [] [] [] ?_; intro a7 D; clear C
 refine wp_seq ?_
 refine sqB D hM0 [0] [] [(7, .bool (u0.Reader.Code != 0))] ?_; intro af d; clear D
 refine cd d (t := u0.Reader.Code != 0) (by kernel_rfl) (fun o => ?_) (fun o => ?_)
 ·
  have ag := j.1 o; clear j
  refine sqB d hM0 [] [] [(2, y8 48)] ?_; intro az ah; clear d
  refine wp_ret ?_
  refine thr ?_
  refine ra1 ah (y8 48) ?_
  exact ⟨(48, u0), ao2, cap3, Z, rfl, ag, m, hs4, hM0.keep (List.Sublist.cons_cons _ (List.Sublist.refl _))⟩
 have l := j.2 o; clear j
 refine wp_skip ?_
 refine thn ?_
 refine wp_seq ?_
 have E : Fr 38 [] [⟨0, [], pt b1 0⟩] af := d.reg; clear d
 refine sqQH mixed (by kernel_rfl) hM0 ?_; intro ai F
 refine q1 E 8 (pt b1 0) ?_; intro aA G; clear E
 refine q1 G 9 (pt b1 0) ?_; intro aB H; clear G
 refine q1 H 10 (pt b1 1) ?_; intro aC p; clear H
 refine qst p (i6 u0.Reader.At) (nog rfl _) rfl (by kernel_rfl) (fun v37 hC => ld p hC 0 (g := []) (b := b1) (off := 1) (cs := (e61A u0 ao2 cap3)) (ty := 61) rfl (by kernel_rfl) (by kernel_rfl) (by kernel_rfl) (by kernel_rfl) rfl) ?_; intro aD I; clear p
 refine q1 I 12 (pt b1 0) ?_; intro aE J; clear I
 refine q1 J 13 (pt b1 0) ?_; intro aF L; clear J
 refine q1 L 14 (pt b1 0) ?_; intro aG s; clear L
 refine qst s (str u0.Reader.Row) (nog rfl _) rfl (by kernel_rfl) (fun v49 hC => ld s hC 0 (g := []) (b := b1) (off := 0) (cs := (e61A u0 ao2 cap3)) (ty := 61) rfl (by kernel_rfl) (by kernel_rfl) (by kernel_rfl) (by kernel_rfl) rfl) ?_; intro aH M; clear s
 refine q1 M 16 (i6 (u0.Reader.Row.length : Int)) ?_; intro aI N; clear M
 refine q1 N 17 (.bool (u0.Reader.At == (u0.Reader.Row.length : Int))) ?_; intro aJ h; clear N
 refine qnl (F _ ?_); clear F ai; intro aK a; clear hM0
 refine cd h (t := u0.Reader.At == (u0.Reader.Row.length : Int)) (by kernel_rfl) (fun u => ?_) (fun u => ?_)
 ·
  have aj := l.1 u; clear l
  refine sqH ?_; intro ak O
  refine bt h a 3 [] [] [(20, pt b1 2)] ?_; intro aL v; clear h
  refine sx v a 0 [str u0.Reader.Row, i6 u0.Reader.At, i6 7, y8 u0.Reader.c.last, i6 u0.Reader.c.n, i6 u0.f.ID, .bool u0.f.Long, .bool u0.f.Fast, .bool u0.f.Remote, i6 u0.f.Size, .slice ao2 u0.f.Data.length cap3] 2 ?_; intro al P; clear a
  have Q : Mem B [] w0 Z0 ((.row b1 [str u0.Reader.Row, i6 u0.Reader.At, i6 7, y8 u0.Reader.c.last, i6 u0.Reader.c.n, i6 u0.f.ID, .bool u0.f.Long, .bool u0.f.Fast, .bool u0.f.Remote, i6 u0.f.Size, .slice ao2 u0.f.Data.length cap3] 61) :: Rr) Z al := P; clear P
  refine nlH (O _ _ ?_); clear O ak
  refine sqB v Q [] [] [(2, y8 48)] ?_; intro aM am; clear v
  refine wp_ret ?_
  refine thr ?_
  refine ra1 am (y8 48) ?_
  exact ⟨(48, (⟨(⟨u0.Reader.Row, u0.Reader.At, 7, u0.Reader.c⟩ : Reader), u0.f⟩ : FReader)), ao2, cap3, Z, rfl, aj, m, hs4, Q.keep (List.Sublist.cons_cons _ (List.Sublist.refl _))⟩
 have an := l.2 u; clear l
 refine wp_skip ?_
 refine thn ?_
 refine sqH ?_; intro ao R
 refine bt h a 7 [0] [] [(25, i6 (w64 (u0.Reader.At + 1))), (27, pt b1 1)] ?_; intro ap x; clear h
 refine sx x a 0 [str u0.Reader.Row, i6 (w64 (u0.Reader.At + 1)), i6 u0.Reader.Code, y8 u0.Reader.c.last, i6 u0.Reader.c.n, i6 u0.f.ID, .bool u0.f.Long, .bool u0.f.Fast, .bool u0.f.Remote, i6 u0.f.Size, .slice ao2 u0.f.Data.length cap3] 1 ?_; intro aq S; clear a
 have T : Mem B [] w0 Z0 ((.row b1 [str u0.Reader.Row, i6 (w64 (u0.Reader.At + 1)), i6 u0.Reader.Code, y8 u0.Reader.c.last, i6 u0.Reader.c.n, i6 u0.f.ID, .bool u0.f.Long, .bool u0.f.Fast, .bool u0.f.Remote, i6 u0.f.Size, .slice ao2 u0.f.Data.length cap3] 61) :: Rr) Z aq := S; clear S
 refine nlH (R _ _ ?_); clear R ao
 have U : Fr 38 [] [⟨0, [], pt b1 0⟩] ap := x.reg; clear x
 refine sqQH mixed (by kernel_rfl) T ?_; intro ar V
 refine q1 U 28 (pt b1 0) ?_; intro aN W; clear U
 refine q1 W 29 (pt b1 0) ?_; intro aO X; clear W
 refine q1 X 30 (pt b1 0) ?_; intro aP y; clear X
 refine qst y (str u0.Reader.Row) (nog rfl _) rfl (by kernel_rfl) (fun v105 hC => ld y hC 0 (g := []) (b := b1) (off := 0) (cs := [str u0.Reader.Row, i6 (w64 (u0.Reader.At + 1)), i6 u0.Reader.Code, y8 u0.Reader.c.last, i6 u0.Reader.c.n, i6 u0.f.ID, .bool u0.f.Long, .bool u0.f.Fast, .bool u0.f.Remote, i6 u0.f.Size, .slice ao2 u0.f.Data.length cap3]) (ty := 61) rfl (by kernel_rfl) (by kernel_rfl) (by kernel_rfl) (by kernel_rfl) rfl) ?_; intro aQ Y; clear y
 refine q1 Y 32 (pt b1 0) ?_; intro aR aa; clear Y
 refine q1 aa 33 (pt b1 0) ?_; intro aS ab; clear aa
 refine q1 ab 34 (pt b1 1) ?_; intro aT z; clear ab
 refine qst z (i6 (w64 (u0.Reader.At + 1))) (nog rfl _) rfl (by kernel_rfl) (fun v117 hC => ld z hC 0 (g := []) (b := b1) (off := 1) (cs := [str u0.Reader.Row, i6 (w64 (u0.Reader.At + 1)), i6 u0.Reader.Code, y8 u0.Reader.c.last, i6 u0.Reader.c.n, i6 u0.f.ID, .bool u0.f.Long, .bool u0.f.Fast, .bool u0.f.Remote, i6 u0.f.Size, .slice ao2 u0.f.Data.length cap3]) (ty := 61) rfl (by kernel_rfl) (by kernel_rfl) (by kernel_rfl) (by kernel_rfl) rfl) ?_; intro aU ac; clear z
 refine q1 ac 36 (i6 (w64 ((w64 (u0.Reader.At + 1)) - 1))) ?_; intro aV A; clear ac
 obtain ⟨au, av⟩ := an
 obtain ⟨i, ad⟩ : ∃ q, u0.Reader.Row[(w64 ((w64 (u0.Reader.At + 1)) - 1)).toNat]? = some q := ⟨_, List.getElem?_eq_getElem (by omega)⟩; have aw := av i ad
 refine qst A (y8 (i.toNat : Int)) (nog rfl _) rfl (by kernel_rfl) (fun v123 hC => stridx_run A (k := .i64) rfl (by kernel_rfl) (by kernel_rfl) (by kernel_rfl) au.1 ad) ?_; intro aW ae; clear A
 refine q1 ae 2 (y8 (i.toNat : Int)) ?_; intro aX ax; clear ae
 refine qnl (V _ ?_); clear V ar; intro aY ay; clear T
 refine wp_ret ?_
 refine ra1 ax (y8 (i.toNat : Int)) ?_
 exact ⟨((i.toNat : Int), (⟨(⟨u0.Reader.Row, w64 (u0.Reader.At + 1), u0.Reader.Code, u0.Reader.c⟩ : Reader), u0.f⟩ : FReader)), ao2, cap3, Z, rfl, aw, m, hs4, ay.keep (List.Sublist.cons_cons _ (List.Sublist.refl _))⟩

theorem fsizes_walk   (Z : Fz) (w : World)  (hZ : Z.on w) {K : (List Int) → Prop} (hp : fsizes_vc  K) : Calls Tryz.prog 35 #[] w fun e w' => ∃ (r : (List Int)) (ao1001 : Option Addr) (cap1002 : Nat) (Z' : Fz), e = .returned (.slice ao1001 r.length cap1002) ∧ K r ∧ Mem w.heap.size [] w Z [.own t6 3 ao1001 cap1002 r] Z' w' := by
 refine enter0 Tryz.func35 rfl rfl (by kernel_rfl) ?_; intro n d; have c := Mem.start w Z hZ; have o := Fz.le.refl Z
 refine sqB d c [] [] [] ?_; intro p f; clear d
 refine sqH ?_; intro j g
 refine nw f c (fun b => .slice (sm b) 16 16) [i6 0, i6 1, i6 2, i6 3, i6 4, i6 5, i6 6, i6 7, i6 8, i6 12, i6 16, i6 20, i6 24, i6 32, i6 48, i6 64] 3 ?_; intro a q k h i; clear f c
 refine s1 h 0 (.slice (sm a) 16 16) ?_; intro s l; clear h
 refine nlH (g _ _ ?_); clear g j
 refine wp_ret ?_
 have m : Mem w.heap.size [] w Z [.own t6 3 (sm a) 16 ([0, 1, 2, 3, 4, 5, 6, 7, 8, 12, 16, 20, 24, 32, 48, 64] : List Int)] Z k := i.rowOwn (T := t6) (xs := ([0, 1, 2, 3, 4, 5, 6, 7, 8, 12, 16, 20, 24, 32, 48, 64] : List Int)) 0 rfl (by decide) (by show 16 ≤ lim; decide) ((RepAll.one (T := t6) (x := 0) rfl).append ((RepAll.one (T := t6) (x := 1) rfl).append ((RepAll.one (T := t6) (x := 2) rfl).append ((RepAll.one (T := t6) (x := 3) rfl).append ((RepAll.one (T := t6) (x := 4) rfl).append ((RepAll.one (T := t6) (x := 5) rfl).append ((RepAll.one (T := t6) (x := 6) rfl).append ((RepAll.one (T := t6) (x := 7) rfl).append ((RepAll.one (T := t6) (x := 8) rfl).append ((RepAll.one (T := t6) (x := 12) rfl).append ((RepAll.one (T := t6) (x := 16) rfl).append ((RepAll.one (T := t6) (x := 20) rfl).append ((RepAll.one (T := t6) (x := 24) rfl).append ((RepAll.one (T := t6) (x := 32) rfl).append ((RepAll.one (T := t6) (x := 48) rfl).append (RepAll.one (T := t6) (x := 64) rfl)))))))))))))))); clear i
 refine ra1 l (.slice (sm a) ([0, 1, 2, 3, 4, 5, 6, 7, 8, 12, 16, 20, 24, 32, 48, 64] : List Int).length 16) ?_
 exact ⟨([0, 1, 2, 3, 4, 5, 6, 7, 8, 12, 16, 20, 24, 32, 48, 64] : List Int), (sm a), 16, Z, rfl, hp, m.keep (List.Sublist.cons_cons _ (List.Sublist.slnil))⟩
theorem fsizes_fun   (Z : Fz) (w : World)  (hZ : Z.on w) : Calls Tryz.prog 35 #[] w fun e w' => ∃ (ao1001 : Option Addr) (cap1002 : Nat) (Z' : Fz), e = .returned (.slice ao1001 fsizes.length cap1002) ∧ Mem w.heap.size [] w Z [.own t6 3 ao1001 cap1002 fsizes] Z' w' :=
  (fsizes_walk   Z w  hZ (fsizes_ok )).mono fun _ _ ⟨r, h0, h1, h2, he, hk, hm⟩ => by subst hk; exact ⟨h0, h1, h2, he, hm⟩

theorem fbit_walk (u0 : Bool)  (Z : Fz) (w : World)  (hZ : Z.on w) {K : (List UInt8) → Prop} (hp : fbit_vc u0 K) : Calls Tryz.prog 87 #[.bool u0] w fun e w' => ∃ r : (List UInt8), e = .returned (str r) ∧ K r ∧ Below w.heap.size w w' := by
 refine enter0 Tryz.func87 rfl rfl (by kernel_rfl) ?_; intro k d; have a := Mem.start w Z hZ; have l := Fz.le.refl Z
 refine sqB d a [] [] [] ?_; intro m f; clear d
 refine wp_seq ?_
 refine sqB f a [] [] [(3, .bool u0)] ?_; intro n b; clear f
 refine cd b (t := u0) (by kernel_rfl) (fun c => ?_) (fun c => ?_)
 ·
  have g := hp.1 c; clear hp
  refine sqB b a [] [] [(2, str ([49] : List UInt8))] ?_; intro o h; clear b
  refine wp_ret ?_
  refine thr ?_
  refine ra1 h (str ([49] : List UInt8)) ?_
  exact ⟨([49] : List UInt8), rfl, g, a.below⟩
 have i := hp.2 c; clear hp
 refine wp_skip ?_
 refine thn ?_
 refine sqB b a [] [] [(2, str ([48] : List UInt8))] ?_; intro p j; clear b
 refine wp_ret ?_
 refine ra1 j (str ([48] : List UInt8)) ?_
 exact ⟨([48] : List UInt8), rfl, i, a.below⟩
theorem fbit_fun (u0 : Bool)  (Z : Fz) (w : World)  (hZ : Z.on w) : Calls Tryz.prog 87 #[.bool u0] w fun e w' => e = .returned (str (fbit u0)) ∧ Below w.heap.size w w' :=
  (fbit_walk u0  Z w  hZ (fbit_ok u0)).mono fun _ _ ⟨r, he, hk, hb⟩ => ⟨by subst hk; exact he, hb⟩

theorem fkind_walk (u0 : Frame) (ao1 : Option Addr) (cap2 : Nat) (Z : Fz) (w : World) (hs3 : SlR t8 Z ao1 cap2 u0.Data) (hZ : Z.on w) {K : Int → Prop} (hp : fkind_vc u0 K) : Calls Tryz.prog 56 #[.agg #[i6 u0.ID, .bool u0.Long, .bool u0.Fast, .bool u0.Remote, i6 u0.Size, .slice ao1 u0.Data.length cap2]] w fun e w' => ∃ r : Int, e = .returned (i6 r) ∧ K r ∧ Below w.heap.size w w' := by
 refine enter0 Tryz.func56 rfl rfl (by kernel_rfl) ?_; intro x i; have j := Mem.start w Z hZ; have y := Fz.le.refl Z
 have d := hp (hs3.small); clear hp
 refine sqH ?_; intro n k
 refine nw i j pb [i6 u0.ID, .bool u0.Long, .bool u0.Fast, .bool u0.Remote, i6 u0.Size, .slice ao1 u0.Data.length cap2] 24 ?_; intro z A B l a; clear i j
 refine s1 l 2 (i6 0) ?_; intro C m; clear l
 refine nlH (k _ _ ?_); clear k n
 refine wp_seq ?_
 refine wp_block ?_
 refine sqB m a [0] [] [(3, .bool (!u0.Fast))] ?_; intro D b; clear m
 refine cd b (t := !u0.Fast) (by kernel_rfl) (fun g => ?_) (fun g => ?_)
 ·
  have o := d.1 g; clear d
  refine sqB b a [] [] [(2, i6 0)] ?_; intro E p; clear b
  refine wp_ret ?_
  refine ibr ?_
  refine thr ?_
  refine ra1 p (i6 0) ?_
  exact ⟨0, rfl, o, a.below⟩
 have f := d.2 g; clear d
 refine sqB b a [0] [] [(7, .bool (decide ((u0.Data.length : Int) ≤ 16)))] ?_; intro F c; clear b
 refine cd c (t := decide ((u0.Data.length : Int) ≤ 16)) (by kernel_rfl) (fun h => ?_) (fun h => ?_)
 ·
  have q := f.1 h; clear f
  refine sqB c a [] [] [(2, i6 1)] ?_; intro G s; clear c
  refine wp_ret ?_
  refine ibr ?_
  refine thr ?_
  refine ra1 s (i6 1) ?_
  exact ⟨1, rfl, q, a.below⟩
 have u := f.2 h; clear f
 refine wp_skip ?_
 refine ibn ?_
 refine thn ?_
 refine sqB c a [] [] [(2, i6 2)] ?_; intro H v; clear c
 refine wp_ret ?_
 refine ra1 v (i6 2) ?_
 exact ⟨2, rfl, u, a.below⟩
theorem fkind_fun (u0 : Frame) (ao1 : Option Addr) (cap2 : Nat) (Z : Fz) (w : World) (hs3 : SlR t8 Z ao1 cap2 u0.Data) (hZ : Z.on w) : Calls Tryz.prog 56 #[.agg #[i6 u0.ID, .bool u0.Long, .bool u0.Fast, .bool u0.Remote, i6 u0.Size, .slice ao1 u0.Data.length cap2]] w fun e w' => e = .returned (i6 (fkind u0)) ∧ Below w.heap.size w w' :=
  (fkind_walk u0 ao1 cap2 Z w hs3 hZ (fkind_ok u0)).mono fun _ _ ⟨r, he, hk, hb⟩ => ⟨by subst hk; exact he, hb⟩

theorem sindex_walk (u0 : List Int) (u1 : Int) (ao1 : Option Addr) (cap2 : Nat) (Z : Fz) (w : World) (hs3 : SlR t6 Z ao1 cap2 u0) (hZ : Z.on w) {K : Int → Prop} (hp : sindex_vc u0 u1 K) : Calls Tryz.prog 27 #[.slice ao1 u0.length cap2, i6 u1] w fun e w' => ∃ r : Int, e = .returned (i6 r) ∧ K r ∧ Below w.heap.size w w' := by
 refine enter0 Tryz.func27 rfl rfl (by kernel_rfl) ?_; intro a0 m; have g := Mem.start w Z hZ; have ad := Fz.le.refl Z
 have G := hp (hs3.small); clear hp
 refine sqB m g [] [] [] ?_; intro a6 n; clear m
 refine wp_seq ?_
 refine sqB n g [] [] [(7, i6 (u0.length : Int)), (8, i6 0)] ?_; intro o p; clear n
 refine wp_block ?_
 have q : Fr 19 [] [⟨0, [], .slice ao1 u0.length cap2⟩, ⟨1, [], i6 u1⟩, ⟨7, [], i6 (u0.length : Int)⟩, ⟨8, [], i6 0⟩] o := p.reg; clear p
 have u : Fr 19 [] [⟨0, [], .slice ao1 u0.length cap2⟩, ⟨1, [], i6 u1⟩, ⟨7, [], i6 (u0.length : Int)⟩, ⟨8, [], i6 0⟩] o := q.reg; clear q
 obtain ⟨H, I, J, L⟩ := G
 refine lp (ι := Int) (fun s => [⟨0, [], .slice ao1 u0.length cap2⟩, ⟨1, [], i6 u1⟩, ⟨7, [], i6 (u0.length : Int)⟩, ⟨8, [], i6 s⟩]) (fun s => []) (fun s => Z) (fun s => H s) (fun s => I s) 0 J (by exact u.reg) (by exact g) ?_
 rintro a M N O v x
 have y : Fr 19 [] [⟨0, [], .slice ao1 u0.length cap2⟩, ⟨1, [], i6 u1⟩, ⟨7, [], i6 (u0.length : Int)⟩, ⟨8, [], i6 a⟩] N := v; clear v u
 have b : Mem w.heap.size [] w Z [] Z O := x; clear x g
 have h := L a M
 refine sqB y b [] [] [(9, .bool (decide (a < (u0.length : Int))))] ?_; intro ae c; clear y
 refine wp_seq ?_
 refine cd c (t := decide (a < (u0.length : Int))) (by kernel_rfl) (fun j => ?_) (fun j => ?_)
 ·
  have P := h.1 j; clear h
  refine wp_skip ?_
  refine thn ?_
  refine wp_seq ?_
  refine wp_block ?_
  refine sqB c b [] [] [(5, i6 a)] ?_; intro af z; clear c
  refine sqH ?_; intro Q A
  refine bt z b 3 [] [] [(11, i6 u1), (12, .slice ao1 u0.length cap2), (13, i6 a)] ?_; intro ag B; clear z
  obtain ⟨R, C⟩ := P
  refine ix B (T := t6) (xs := u0) hs3 a R (k := .i64) (e := 3) (bytes := 8) (nog rfl _) rfl (by kernel_rfl) rfl (by kernel_rfl) (by kernel_rfl) (by kernel_rfl) ?_; intro ah ai S d aj U V W D; clear B
  have i := C d U; clear C
  obtain rfl : S = ([i6 d] : List Value) := W
  refine z1 D b 15 V 0 (i6 d) rfl ?_; intro ak E; clear D
  refine s1 E 16 (.bool (u1 == d)) ?_; intro al f; clear E
  refine nlH (A _ _ ?_); clear A Q
  refine cd f (t := u1 == d) (by kernel_rfl) (fun l => ?_) (fun l => ?_)
  ·
   have X := i.1 l; clear i
   refine sqB f b [] [] [(4, i6 a)] ?_; intro am Y; clear f
   refine wp_ret ?_
   refine ibr ?_
   refine thr ?_
   refine thr ?_
   refine ibr ?_
   refine thr ?_
   refine ra1 Y (i6 a) ?_
   exact ⟨a, rfl, X, b.below⟩
  have F := i.2 l; clear i
  refine wp_skip ?_
  refine ibn ?_
  refine thn ?_
  refine rgB f b [] [] [(8, i6 (w64 (a + 1)))] ?_; intro an aa; clear f
  refine rd ?_
  exact ⟨w64 (a + 1), F.1, F.2, (aa.reg).anyβ _ (by kernel_rfl), b.keep (List.Sublist.slnil)⟩
 have ab := h.2 j; clear h
 refine wp_exit ?_
 refine thx ?_
 refine thx ?_
 refine ibx ?_
 refine thn ?_
 refine sqB c b [] [] [(4, i6 (-1))] ?_; intro ao ac; clear c
 refine wp_ret ?_
 refine ra1 ac (i6 (-1)) ?_
 exact ⟨-1, rfl, ab, b.below⟩

theorem scontains_walk (u0 : List Int) (u1 : Int) (ao1 : Option Addr) (cap2 : Nat) (Z : Fz) (w : World) (hs3 : SlR t6 Z ao1 cap2 u0) (hZ : Z.on w) {K : Bool → Prop} (hp : scontains_vc u0 u1 K) : Calls Tryz.prog 58 #[.slice ao1 u0.length cap2, i6 u1] w fun e w' => ∃ r : Bool, e = .returned (.bool r) ∧ K r ∧ Below w.heap.size w w' := by
 refine enter0 Tryz.func58 rfl rfl (by kernel_rfl) ?_; intro n c; have a := Mem.start w Z hZ; have o := Fz.le.refl Z
 have j := hp (hs3.small); clear hp
 refine sqB c a [] [] [] ?_; intro p d; clear c
 refine sqH ?_; intro k f
 refine bt d a 2 [] [] [(5, .slice ao1 u0.length cap2), (6, i6 u1)] ?_; intro q g; clear d
 refine ck g 27 #[.slice ao1 u0.length cap2, i6 u1] ?_
 refine (sindex_walk u0 u1 ao1 cap2 _ _ hs3 a.fz j).mono ?_; rintro _ s ⟨b, rfl, l, hb⟩; refine ⟨_, rfl, ?_⟩; intro t h; have i := a.call hb; clear hb a g
 refine bt h i 2 [] [] [(4, .bool (decide (b ≥ 0)))] ?_; intro u m; clear h
 refine nlH (f _ _ ?_); clear f k
 refine wp_ret ?_
 refine ra1 m (.bool (decide (b ≥ 0))) ?_
 exact ⟨decide (b ≥ 0), rfl, l, i.below⟩

end Go.Proofs.YtmbdcehmeiiaoaaGreatDoor
set_option linter.unusedVariables false
set_option linter.unusedSimpArgs false
set_option maxRecDepth 100000
set_option maxHeartbeats 0
namespace Go.Proofs.YtmbdcehmeiiaoaaGreatDoor
open Go.Sy Go.RowKit
abbrev e61B (X : FReader) (A0 : Option Addr) (C0 : Nat) : List Value := [str X.Reader.Row, i6 X.Reader.At, i6 X.Reader.Code, y8 X.Reader.c.last, i6 X.Reader.c.n, i6 X.f.ID, .bool X.f.Long, .bool X.f.Fast, .bool X.f.Remote, i6 X.f.Size, .slice A0 X.f.Data.length C0]
abbrev e24B (X : Frame) (A0 : Option Addr) (C0 : Nat) : List Value := [i6 X.ID, .bool X.Long, .bool X.Fast, .bool X.Remote, i6 X.Size, .slice A0 X.Data.length C0]
theorem bread_fun (u0 : List UInt8) (hpre : u0.length ≤ 62 ∧ isRow u0 = true)  (Z : Fz) (w : World)  (hZ : Z.on w) : Calls Tryz.prog 67 #[str u0] w fun e w' => e = .returned (y6 (breadS u0)) ∧ Below w.heap.size w w' :=
  (bread_walk u0  Z w  hZ (bread_ok u0 hpre)).mono fun _ _ ⟨r, he, hk, hb⟩ => ⟨by subst hk; exact he, hb⟩

theorem bwrite_fun (u0 : Int) (u1 : Int) (hpre : 0 ≤ u1 ∧ u1 ≤ 64 ∧ 0 ≤ u0 ∧ u0 < 2 ^ 62)  (Z : Fz) (w : World)  (hZ : Z.on w) : Calls Tryz.prog 71 #[y6 u0, i6 u1] w fun e w' => e = .returned (str (bwriteS u0 u1)) ∧ Below w.heap.size w w' :=
  (bwrite_walk u0 u1  Z w  hZ (bwrite_ok u0 u1 hpre)).mono fun _ _ ⟨r, he, hk, hb⟩ => ⟨by subst hk; exact he, hb⟩

theorem bcheck_fun (u0 : List UInt8)  (Z : Fz) (w : World)  (hZ : Z.on w) : Calls Tryz.prog 31 #[str u0] w fun e w' => e = .returned (i6 (bcheckS u0)) ∧ Below w.heap.size w w' :=
  (bcheck_walk u0  Z w  hZ (bcheck_ok u0)).mono fun _ _ ⟨r, he, hk, hb⟩ => ⟨by subst hk; exact he, hb⟩

theorem ksum_fun (u0 : Kind) (u1 : List UInt8) (hpre : okKindS u0 ∧ u1.length ≤ 1000000)  (Z : Fz) (w : World)  (hZ : Z.on w) : Calls Tryz.prog 72 #[.agg #[i6 u0.Size, y6 u0.Poly, y6 u0.From, y6 u0.End], str u1] w fun e w' => e = .returned (y6 (ksumS u0 u1)) ∧ Below w.heap.size w w' :=
  (ksum_walk u0 u1  Z w  hZ (ksum_ok u0 u1 hpre)).mono fun _ _ ⟨r, he, hk, hb⟩ => ⟨by subst hk; exact he, hb⟩

theorem cnext_fun (u0 : Counter) (u1 : Int) (hpre : -1000000 ≤ u0.n ∧ u0.n ≤ 1000000 ∧ 0 ≤ u1 ∧ u1 ≤ 97) (b1 : Nat) (B : Nat) (w0 : World) (Z0 : Fz) (Rr : List Res) (Z : Fz) (w : World) (hM0 : Mem B [] w0 Z0 ((.row b1 [y8 u0.last, i6 u0.n] 57) :: Rr) Z w) (hZ : Z.on w) : Calls Tryz.prog 69 #[pt b1 0, y8 u1] w fun e w' => ∃ (Z' : Fz), e = .returned (.tuple #[y8 (cnextS u0 u1).1, .bool (cnextS u0 u1).2.1]) ∧ Fz.le Z Z' ∧ Mem B [] w0 Z0 ((.row b1 [y8 (cnextS u0 u1).2.2.last, i6 (cnextS u0 u1).2.2.n] 57) :: Rr) Z' w' :=
  (cnext_walk u0 u1 b1 B w0 Z0 Rr Z w hM0 hZ (cnext_ok u0 u1 hpre)).mono fun _ _ ⟨r, h0, he, hk, f0, hm⟩ => by subst hk; exact ⟨h0, he, f0, hm⟩


theorem cnextF_fun (u0 : FReader) (u1 : Int) (hpre : -1000000 ≤ u0.Reader.c.n ∧ u0.Reader.c.n ≤ 1000000 ∧ 0 ≤ u1 ∧ u1 ≤ 97) (b1 : Nat) (ao2 : Option Addr) (cap3 : Nat) (B : Nat) (w0 : World) (Z0 : Fz) (Rr : List Res) (Z : Fz) (w : World) (hs4 : SlR t8 Z ao2 cap3 u0.f.Data) (hM0 : Mem B [] w0 Z0 ((.row b1 [str u0.Reader.Row, i6 u0.Reader.At, i6 u0.Reader.Code, y8 u0.Reader.c.last, i6 u0.Reader.c.n, i6 u0.f.ID, .bool u0.f.Long, .bool u0.f.Fast, .bool u0.f.Remote, i6 u0.f.Size, .slice ao2 u0.f.Data.length cap3] 61) :: Rr) Z w) (hZ : Z.on w) : Calls Tryz.prog 69 #[pt b1 3, y8 u1] w fun e w' => ∃ (ao1001 : Option Addr) (cap1002 : Nat) (Z' : Fz), e = .returned (.tuple #[y8 (cnextFS u0 u1).1, .bool (cnextFS u0 u1).2.1]) ∧ Fz.le Z Z' ∧ SlR t8 Z' ao1001 cap1002 (cnextFS u0 u1).2.2.f.Data ∧ Mem B [] w0 Z0 ((.row b1 [str (cnextFS u0 u1).2.2.Reader.Row, i6 (cnextFS u0 u1).2.2.Reader.At, i6 (cnextFS u0 u1).2.2.Reader.Code, y8 (cnextFS u0 u1).2.2.Reader.c.last, i6 (cnextFS u0 u1).2.2.Reader.c.n, i6 (cnextFS u0 u1).2.2.f.ID, .bool (cnextFS u0 u1).2.2.f.Long, .bool (cnextFS u0 u1).2.2.f.Fast, .bool (cnextFS u0 u1).2.2.f.Remote, i6 (cnextFS u0 u1).2.2.f.Size, .slice ao1001 (cnextFS u0 u1).2.2.f.Data.length cap1002] 61) :: Rr) Z' w' :=
  (cnextF_walk u0 u1 b1 ao2 cap3 B w0 Z0 Rr Z w hs4 hM0 hZ (cnextF_ok u0 u1 hpre)).mono fun _ _ ⟨r, h0, h1, h2, he, hk, f0, f1, hm⟩ => by subst hk; exact ⟨h0, h1, h2, he, f0, f1, hm⟩


theorem rbitF_fun (u0 : FReader) (hpre : 0 ≤ u0.Reader.At ∧ u0.Reader.At ≤ (u0.Reader.Row.length : Int) ∧ u0.Reader.Row.length ≤ 1000000) (b1 : Nat) (ao2 : Option Addr) (cap3 : Nat) (B : Nat) (w0 : World) (Z0 : Fz) (Rr : List Res) (Z : Fz) (w : World) (hs4 : SlR t8 Z ao2 cap3 u0.f.Data) (hM0 : Mem B [] w0 Z0 ((.row b1 [str u0.Reader.Row, i6 u0.Reader.At, i6 u0.Reader.Code, y8 u0.Reader.c.last, i6 u0.Reader.c.n, i6 u0.f.ID, .bool u0.f.Long, .bool u0.f.Fast, .bool u0.f.Remote, i6 u0.f.Size, .slice ao2 u0.f.Data.length cap3] 61) :: Rr) Z w) (hZ : Z.on w) : Calls Tryz.prog 68 #[pt b1 0] w fun e w' => ∃ (ao1001 : Option Addr) (cap1002 : Nat) (Z' : Fz), e = .returned (y8 (rbitFS u0).1) ∧ Fz.le Z Z' ∧ SlR t8 Z' ao1001 cap1002 (rbitFS u0).2.f.Data ∧ Mem B [] w0 Z0 ((.row b1 [str (rbitFS u0).2.Reader.Row, i6 (rbitFS u0).2.Reader.At, i6 (rbitFS u0).2.Reader.Code, y8 (rbitFS u0).2.Reader.c.last, i6 (rbitFS u0).2.Reader.c.n, i6 (rbitFS u0).2.f.ID, .bool (rbitFS u0).2.f.Long, .bool (rbitFS u0).2.f.Fast, .bool (rbitFS u0).2.f.Remote, i6 (rbitFS u0).2.f.Size, .slice ao1001 (rbitFS u0).2.f.Data.length cap1002] 61) :: Rr) Z' w' :=
  (rbitF_walk u0 b1 ao2 cap3 B w0 Z0 Rr Z w hs4 hM0 hZ (rbitF_ok u0 hpre)).mono fun _ _ ⟨r, h0, h1, h2, he, hk, f0, f1, hm⟩ => by subst hk; exact ⟨h0, h1, h2, he, f0, f1, hm⟩

theorem scontains_fun (u0 : List Int) (u1 : Int) (ao1 : Option Addr) (cap2 : Nat) (Z : Fz) (w : World) (hs3 : SlR t6 Z ao1 cap2 u0) (hZ : Z.on w) : Calls Tryz.prog 58 #[.slice ao1 u0.length cap2, i6 u1] w fun e w' => e = .returned (.bool (scontainsS u0 u1)) ∧ Below w.heap.size w w' :=
  (scontains_walk u0 u1 ao1 cap2 Z w hs3 hZ (scontains_ok u0 u1)).mono fun _ _ ⟨r, he, hk, hb⟩ => ⟨by subst hk; exact he, hb⟩

theorem sindex_fun (u0 : List Int) (u1 : Int) (ao1 : Option Addr) (cap2 : Nat) (Z : Fz) (w : World) (hs3 : SlR t6 Z ao1 cap2 u0) (hZ : Z.on w) : Calls Tryz.prog 27 #[.slice ao1 u0.length cap2, i6 u1] w fun e w' => e = .returned (i6 (sindexS u0 u1)) ∧ Below w.heap.size w w' :=
  (sindex_walk u0 u1 ao1 cap2 Z w hs3 hZ (sindex_ok2 u0 u1)).mono fun _ _ ⟨r, he, hk, hb⟩ => ⟨by subst hk; exact he, hb⟩

theorem csum_walk (u0 : Int) (u1 : List UInt8)  (Z : Fz) (w : World)  (hZ : Z.on w) {K : ((List UInt8) × Int) → Prop} (hp : csum_vc u0 u1 K) : Calls Tryz.prog 39 #[i6 u0, str u1] w fun e w' => ∃ r : (List UInt8) × Int, e = .returned (.tuple #[str r.1, i6 r.2]) ∧ K r ∧ Below w.heap.size w w' := by
 refine enter0 Tryz.func39 rfl rfl (by kernel_rfl) ?_; intro a0 y; have i := Mem.start w Z hZ; have aA := Fz.le.refl Z
 refine sqB y i [] [] [] ?_; intro a4 z; clear y
 refine wp_seq ?_
 refine sqH ?_; intro af A
 refine s1 z 8 (str u1) ?_; intro a7 B; clear z
 refine fc B i (bcheck_fun u1 _ _ i.fz) ?_; intro a9 aB C a; clear B i
 refine s1 C 6 (i6 (bcheckS u1)) ?_; intro aC D; clear C
 refine nlH (A _ _ ?_); clear A af
 refine sqB D a [] [] [(11, .bool ((bcheckS u1) != 0))] ?_; intro aD c; clear D
 refine cd c (t := (bcheckS u1) != 0) (by kernel_rfl) (fun l => ?_) (fun l => ?_)
 ·
  have ag := hp.1 l; clear hp
  refine sqB c a [] [] [(4, str []), (5, i6 (bcheckS u1))] ?_; intro aE ah; clear c
  refine wp_ret ?_
  refine thr ?_
  refine ra2 ah (.tuple #[str [], i6 (bcheckS u1)]) ?_
  exact ⟨([], (bcheckS u1)), rfl, ag, a.below⟩
 have j := hp.2 l; clear hp
 refine wp_skip ?_
 refine thn ?_
 refine wp_seq ?_
 refine sqH ?_; intro ai E
 refine s1 c 13 (i6 u0) ?_; intro aF F; clear c
 refine s1 F 14 (.bool (decide (u0 < 0))) ?_; intro aG G; clear F
 refine s1 G 15 (.bool (decide (u0 < 0))) ?_; intro aH H; clear G
 have I := H.atom ((decide (u0 < 0)) == false) (by kernel_rfl); clear H
 refine gp I 16 0 [] (decide (u0 < 0)) (i6 u0) rfl rfl ?_; intro aI J; clear I
 refine gcl J a (.agg #[i6 ckinds.1.Size, y6 ckinds.1.Poly, y6 ckinds.1.From, y6 ckinds.1.End, i6 ckinds.2.1.Size, y6 ckinds.2.1.Poly, y6 ckinds.2.1.From, y6 ckinds.2.1.End, i6 ckinds.2.2.1.Size, y6 ckinds.2.2.1.Poly, y6 ckinds.2.2.1.From, y6 ckinds.2.2.1.End, i6 ckinds.2.2.2.1.Size, y6 ckinds.2.2.2.1.Poly, y6 ckinds.2.2.2.1.From, y6 ckinds.2.2.2.1.End, i6 ckinds.2.2.2.2.Size, y6 ckinds.2.2.2.2.Poly, y6 ckinds.2.2.2.2.From, y6 ckinds.2.2.2.2.End]) 70 #[] (m := 0) (cj := []) (bj := decide (u0 < 0)) rfl rfl (by kernel_rfl) rfl (by kernel_rfl) (by kernel_rfl) (by kernel_rfl) (fun _ => by kernel_rfl) (fun hg => ckinds_fun  _ _ a.fz) ?_; intro aJ aK L d; clear J a
 refine gp L 18 0 [] (decide (u0 < 0)) (i6 5) rfl rfl ?_; intro aL M; clear L
 refine gp M 19 0 [] (decide (u0 < 0)) (.bool (decide (u0 ≥ 5))) rfl rfl ?_; intro aM n; clear M
 refine st n (.bool ((decide (u0 < 0)) || (decide (u0 ≥ 5)))) (nog rfl _) rfl (by kernel_rfl) (pk_or n (g := []) (m := 0) (b := decide (u0 < 0)) (v := decide (u0 ≥ 5)) rfl (by kernel_rfl) (by kernel_rfl) (by kernel_rfl) rfl) ?_; intro N f; clear n
 refine nlH (E _ _ ?_); clear E ai
 refine cd f (t := (decide (u0 < 0)) || (decide (u0 ≥ 5))) (by kernel_rfl) (fun o => ?_) (fun o => ?_)
 ·
  have aj := j.1 o; clear j
  have O : Fr 30 [] [] N := f.reg; clear f
  refine sqB O d [] [] [(4, str []), (5, i6 8)] ?_; intro aN ak; clear O
  refine wp_ret ?_
  refine thr ?_
  refine ra2 ak (.tuple #[str [], i6 8]) ?_
  exact ⟨([], 8), rfl, aj, d.below⟩
 have al := j.2 o; clear j
 refine wp_skip ?_
 refine thn ?_
 have P : Fr 30 [] [⟨0, [], i6 u0⟩, ⟨1, [], str u1⟩] N := f.reg; clear f
 refine sqH ?_; intro am Q
 refine fc P d (ckinds_fun  _ _ d.fz) ?_; intro aO aP R S; clear P d
 refine s1 R 22 (i6 u0) ?_; intro aQ p; clear R
 obtain ⟨an, ao⟩ := al
 have hix : ∀ x : Int, 0 ≤ x ∧ x < 5 → x = 0 ∨ x = 1 ∨ x = 2 ∨ x = 3 ∨ x = 4 := by intro x hx; omega
 refine st p (.agg #[i6 (([ckinds.1.Size, ckinds.2.1.Size, ckinds.2.2.1.Size, ckinds.2.2.2.1.Size, ckinds.2.2.2.2.Size] : List Int).getD u0.toNat 0), y6 (([ckinds.1.Poly, ckinds.2.1.Poly, ckinds.2.2.1.Poly, ckinds.2.2.2.1.Poly, ckinds.2.2.2.2.Poly] : List Int).getD u0.toNat 0), y6 (([ckinds.1.From, ckinds.2.1.From, ckinds.2.2.1.From, ckinds.2.2.2.1.From, ckinds.2.2.2.2.From] : List Int).getD u0.toNat 0), y6 (([ckinds.1.End, ckinds.2.1.End, ckinds.2.2.1.End, ckinds.2.2.2.1.End, ckinds.2.2.2.2.End] : List Int).getD u0.toNat 0)]) (nog rfl _) rfl (by kernel_rfl) ((by generalize u0 = ix at *; rcases hix _ an with rfl | rfl | rfl | rfl | rfl <;> exact p0 p (by kernel_rfl))) ?_; intro aR T; clear p
 refine nw T S pb [i6 0, y6 0, y6 0, y6 0] 100 ?_; intro h ap aS q U; clear T S
 refine sx q U 0 [i6 (([ckinds.1.Size, ckinds.2.1.Size, ckinds.2.2.1.Size, ckinds.2.2.2.1.Size, ckinds.2.2.2.2.Size] : List Int).getD u0.toNat 0), y6 (([ckinds.1.Poly, ckinds.2.1.Poly, ckinds.2.2.1.Poly, ckinds.2.2.2.1.Poly, ckinds.2.2.2.2.Poly] : List Int).getD u0.toNat 0), y6 (([ckinds.1.From, ckinds.2.1.From, ckinds.2.2.1.From, ckinds.2.2.2.1.From, ckinds.2.2.2.2.From] : List Int).getD u0.toNat 0), y6 (([ckinds.1.End, ckinds.2.1.End, ckinds.2.2.1.End, ckinds.2.2.2.1.End, ckinds.2.2.2.2.End] : List Int).getD u0.toNat 0)] 0 ?_; intro aq V; clear U
 have W : Mem w.heap.size [] w Z [.row h [i6 (([ckinds.1.Size, ckinds.2.1.Size, ckinds.2.2.1.Size, ckinds.2.2.2.1.Size, ckinds.2.2.2.2.Size] : List Int).getD u0.toNat 0), y6 (([ckinds.1.Poly, ckinds.2.1.Poly, ckinds.2.2.1.Poly, ckinds.2.2.2.1.Poly, ckinds.2.2.2.2.Poly] : List Int).getD u0.toNat 0), y6 (([ckinds.1.From, ckinds.2.1.From, ckinds.2.2.1.From, ckinds.2.2.2.1.From, ckinds.2.2.2.2.From] : List Int).getD u0.toNat 0), y6 (([ckinds.1.End, ckinds.2.1.End, ckinds.2.2.1.End, ckinds.2.2.2.1.End, ckinds.2.2.2.2.End] : List Int).getD u0.toNat 0)] 100] Z aq := V; clear V
 refine nlH (Q _ _ ?_); clear Q am
 have s : Fr 30 [] [⟨1, [], str u1⟩, ⟨7, [], pt h 0⟩] ap := q.reg; clear q
 refine sqQH mixed (by kernel_rfl) W ?_; intro ar X
 refine qst s (.agg #[i6 (([ckinds.1.Size, ckinds.2.1.Size, ckinds.2.2.1.Size, ckinds.2.2.2.1.Size, ckinds.2.2.2.2.Size] : List Int).getD u0.toNat 0), y6 (([ckinds.1.Poly, ckinds.2.1.Poly, ckinds.2.2.1.Poly, ckinds.2.2.2.1.Poly, ckinds.2.2.2.2.Poly] : List Int).getD u0.toNat 0), y6 (([ckinds.1.From, ckinds.2.1.From, ckinds.2.2.1.From, ckinds.2.2.2.1.From, ckinds.2.2.2.2.From] : List Int).getD u0.toNat 0), y6 (([ckinds.1.End, ckinds.2.1.End, ckinds.2.2.1.End, ckinds.2.2.2.1.End, ckinds.2.2.2.2.End] : List Int).getD u0.toNat 0)]) (nog rfl _) rfl (by kernel_rfl) (fun v81 hC => lda s hC 0 (g := []) (b := h) (off := 0) (k := 4) (cs := [i6 (([ckinds.1.Size, ckinds.2.1.Size, ckinds.2.2.1.Size, ckinds.2.2.2.1.Size, ckinds.2.2.2.2.Size] : List Int).getD u0.toNat 0), y6 (([ckinds.1.Poly, ckinds.2.1.Poly, ckinds.2.2.1.Poly, ckinds.2.2.2.1.Poly, ckinds.2.2.2.2.Poly] : List Int).getD u0.toNat 0), y6 (([ckinds.1.From, ckinds.2.1.From, ckinds.2.2.1.From, ckinds.2.2.2.1.From, ckinds.2.2.2.2.From] : List Int).getD u0.toNat 0), y6 (([ckinds.1.End, ckinds.2.1.End, ckinds.2.2.1.End, ckinds.2.2.2.1.End, ckinds.2.2.2.2.End] : List Int).getD u0.toNat 0)]) (vs := [i6 (([ckinds.1.Size, ckinds.2.1.Size, ckinds.2.2.1.Size, ckinds.2.2.2.1.Size, ckinds.2.2.2.2.Size] : List Int).getD u0.toNat 0), y6 (([ckinds.1.Poly, ckinds.2.1.Poly, ckinds.2.2.1.Poly, ckinds.2.2.2.1.Poly, ckinds.2.2.2.2.Poly] : List Int).getD u0.toNat 0), y6 (([ckinds.1.From, ckinds.2.1.From, ckinds.2.2.1.From, ckinds.2.2.2.1.From, ckinds.2.2.2.2.From] : List Int).getD u0.toNat 0), y6 (([ckinds.1.End, ckinds.2.1.End, ckinds.2.2.1.End, ckinds.2.2.2.1.End, ckinds.2.2.2.2.End] : List Int).getD u0.toNat 0)]) (ty := 100) rfl (by kernel_rfl) (by kernel_rfl) (by kernel_rfl) (by kernel_rfl) (by kernel_rfl) rfl) ?_; intro aT Y; clear s
 refine q1 Y 25 (str u1) ?_; intro aU aa; clear Y
 obtain ⟨au, av⟩ := ao
 refine qcl aa (y6 (ksumS (⟨([ckinds.1.Size, ckinds.2.1.Size, ckinds.2.2.1.Size, ckinds.2.2.2.1.Size, ckinds.2.2.2.2.Size] : List Int).getD u0.toNat 0, ([ckinds.1.Poly, ckinds.2.1.Poly, ckinds.2.2.1.Poly, ckinds.2.2.2.1.Poly, ckinds.2.2.2.2.Poly] : List Int).getD u0.toNat 0, ([ckinds.1.From, ckinds.2.1.From, ckinds.2.2.1.From, ckinds.2.2.2.1.From, ckinds.2.2.2.2.From] : List Int).getD u0.toNat 0, ([ckinds.1.End, ckinds.2.1.End, ckinds.2.2.1.End, ckinds.2.2.2.1.End, ckinds.2.2.2.2.End] : List Int).getD u0.toNat 0⟩ : Kind) u1)) 72 #[.agg #[i6 (([ckinds.1.Size, ckinds.2.1.Size, ckinds.2.2.1.Size, ckinds.2.2.2.1.Size, ckinds.2.2.2.2.Size] : List Int).getD u0.toNat 0), y6 (([ckinds.1.Poly, ckinds.2.1.Poly, ckinds.2.2.1.Poly, ckinds.2.2.2.1.Poly, ckinds.2.2.2.2.Poly] : List Int).getD u0.toNat 0), y6 (([ckinds.1.From, ckinds.2.1.From, ckinds.2.2.1.From, ckinds.2.2.2.1.From, ckinds.2.2.2.2.From] : List Int).getD u0.toNat 0), y6 (([ckinds.1.End, ckinds.2.1.End, ckinds.2.2.1.End, ckinds.2.2.2.1.End, ckinds.2.2.2.2.End] : List Int).getD u0.toNat 0)], str u1] (nog rfl _) rfl (by kernel_rfl) (fun _ => by kernel_rfl) (qfc fun w hC => ksum_fun (⟨([ckinds.1.Size, ckinds.2.1.Size, ckinds.2.2.1.Size, ckinds.2.2.2.1.Size, ckinds.2.2.2.2.Size] : List Int).getD u0.toNat 0, ([ckinds.1.Poly, ckinds.2.1.Poly, ckinds.2.2.1.Poly, ckinds.2.2.2.1.Poly, ckinds.2.2.2.2.Poly] : List Int).getD u0.toNat 0, ([ckinds.1.From, ckinds.2.1.From, ckinds.2.2.1.From, ckinds.2.2.2.1.From, ckinds.2.2.2.2.From] : List Int).getD u0.toNat 0, ([ckinds.1.End, ckinds.2.1.End, ckinds.2.2.1.End, ckinds.2.2.2.1.End, ckinds.2.2.2.2.End] : List Int).getD u0.toNat 0⟩ : Kind) u1 au _ _ hC.fz) ?_; intro aV ab; clear aa
 refine q1 ab 27 (pt h 0) ?_; intro aW u; clear ab
 refine qst u (i6 (([ckinds.1.Size, ckinds.2.1.Size, ckinds.2.2.1.Size, ckinds.2.2.2.1.Size, ckinds.2.2.2.2.Size] : List Int).getD u0.toNat 0)) (nog rfl _) rfl (by kernel_rfl) (fun v95 hC => ld u hC 0 (g := []) (b := h) (off := 0) (cs := [i6 (([ckinds.1.Size, ckinds.2.1.Size, ckinds.2.2.1.Size, ckinds.2.2.2.1.Size, ckinds.2.2.2.2.Size] : List Int).getD u0.toNat 0), y6 (([ckinds.1.Poly, ckinds.2.1.Poly, ckinds.2.2.1.Poly, ckinds.2.2.2.1.Poly, ckinds.2.2.2.2.Poly] : List Int).getD u0.toNat 0), y6 (([ckinds.1.From, ckinds.2.1.From, ckinds.2.2.1.From, ckinds.2.2.2.1.From, ckinds.2.2.2.2.From] : List Int).getD u0.toNat 0), y6 (([ckinds.1.End, ckinds.2.1.End, ckinds.2.2.1.End, ckinds.2.2.2.1.End, ckinds.2.2.2.2.End] : List Int).getD u0.toNat 0)]) (ty := 100) rfl (by kernel_rfl) (by kernel_rfl) (by kernel_rfl) (by kernel_rfl) rfl) ?_; intro aX ac; clear u
 obtain ⟨aw, ax⟩ := av
 refine qcl ac (str (bwriteS (ksumS (⟨([ckinds.1.Size, ckinds.2.1.Size, ckinds.2.2.1.Size, ckinds.2.2.2.1.Size, ckinds.2.2.2.2.Size] : List Int).getD u0.toNat 0, ([ckinds.1.Poly, ckinds.2.1.Poly, ckinds.2.2.1.Poly, ckinds.2.2.2.1.Poly, ckinds.2.2.2.2.Poly] : List Int).getD u0.toNat 0, ([ckinds.1.From, ckinds.2.1.From, ckinds.2.2.1.From, ckinds.2.2.2.1.From, ckinds.2.2.2.2.From] : List Int).getD u0.toNat 0, ([ckinds.1.End, ckinds.2.1.End, ckinds.2.2.1.End, ckinds.2.2.2.1.End, ckinds.2.2.2.2.End] : List Int).getD u0.toNat 0⟩ : Kind) u1) (([ckinds.1.Size, ckinds.2.1.Size, ckinds.2.2.1.Size, ckinds.2.2.2.1.Size, ckinds.2.2.2.2.Size] : List Int).getD u0.toNat 0))) 71 #[y6 (ksumS (⟨([ckinds.1.Size, ckinds.2.1.Size, ckinds.2.2.1.Size, ckinds.2.2.2.1.Size, ckinds.2.2.2.2.Size] : List Int).getD u0.toNat 0, ([ckinds.1.Poly, ckinds.2.1.Poly, ckinds.2.2.1.Poly, ckinds.2.2.2.1.Poly, ckinds.2.2.2.2.Poly] : List Int).getD u0.toNat 0, ([ckinds.1.From, ckinds.2.1.From, ckinds.2.2.1.From, ckinds.2.2.2.1.From, ckinds.2.2.2.2.From] : List Int).getD u0.toNat 0, ([ckinds.1.End, ckinds.2.1.End, ckinds.2.2.1.End, ckinds.2.2.2.1.End, ckinds.2.2.2.2.End] : List Int).getD u0.toNat 0⟩ : Kind) u1), i6 (([ckinds.1.Size, ckinds.2.1.Size, ckinds.2.2.1.Size, ckinds.2.2.2.1.Size, ckinds.2.2.2.2.Size] : List Int).getD u0.toNat 0)] (nog rfl _) rfl (by kernel_rfl) (fun _ => by kernel_rfl) (qfc fun w hC => bwrite_fun (ksumS (⟨([ckinds.1.Size, ckinds.2.1.Size, ckinds.2.2.1.Size, ckinds.2.2.2.1.Size, ckinds.2.2.2.2.Size] : List Int).getD u0.toNat 0, ([ckinds.1.Poly, ckinds.2.1.Poly, ckinds.2.2.1.Poly, ckinds.2.2.2.1.Poly, ckinds.2.2.2.2.Poly] : List Int).getD u0.toNat 0, ([ckinds.1.From, ckinds.2.1.From, ckinds.2.2.1.From, ckinds.2.2.2.1.From, ckinds.2.2.2.2.From] : List Int).getD u0.toNat 0, ([ckinds.1.End, ckinds.2.1.End, ckinds.2.2.1.End, ckinds.2.2.2.1.End, ckinds.2.2.2.2.End] : List Int).getD u0.toNat 0⟩ : Kind) u1) (([ckinds.1.Size, ckinds.2.1.Size, ckinds.2.2.1.Size, ckinds.2.2.2.1.Size, ckinds.2.2.2.2.Size] : List Int).getD u0.toNat 0) aw _ _ hC.fz) ?_; intro aY ad; clear ac
 refine q1 ad 4 (str (bwriteS (ksumS (⟨([ckinds.1.Size, ckinds.2.1.Size, ckinds.2.2.1.Size, ckinds.2.2.2.1.Size, ckinds.2.2.2.2.Size] : List Int).getD u0.toNat 0, ([ckinds.1.Poly, ckinds.2.1.Poly, ckinds.2.2.1.Poly, ckinds.2.2.2.1.Poly, ckinds.2.2.2.2.Poly] : List Int).getD u0.toNat 0, ([ckinds.1.From, ckinds.2.1.From, ckinds.2.2.1.From, ckinds.2.2.2.1.From, ckinds.2.2.2.2.From] : List Int).getD u0.toNat 0, ([ckinds.1.End, ckinds.2.1.End, ckinds.2.2.1.End, ckinds.2.2.2.1.End, ckinds.2.2.2.2.End] : List Int).getD u0.toNat 0⟩ : Kind) u1) (([ckinds.1.Size, ckinds.2.1.Size, ckinds.2.2.1.Size, ckinds.2.2.2.1.Size, ckinds.2.2.2.2.Size] : List Int).getD u0.toNat 0))) ?_; intro aZ ae; clear ad
 refine q1 ae 5 (i6 0) ?_; intro a1 ay; clear ae
 refine qnl (X _ ?_); clear X ar; intro a2 az; clear W
 refine wp_ret ?_
 refine ra2 ay (.tuple #[str (bwriteS (ksumS (⟨([ckinds.1.Size, ckinds.2.1.Size, ckinds.2.2.1.Size, ckinds.2.2.2.1.Size, ckinds.2.2.2.2.Size] : List Int).getD u0.toNat 0, ([ckinds.1.Poly, ckinds.2.1.Poly, ckinds.2.2.1.Poly, ckinds.2.2.2.1.Poly, ckinds.2.2.2.2.Poly] : List Int).getD u0.toNat 0, ([ckinds.1.From, ckinds.2.1.From, ckinds.2.2.1.From, ckinds.2.2.2.1.From, ckinds.2.2.2.2.From] : List Int).getD u0.toNat 0, ([ckinds.1.End, ckinds.2.1.End, ckinds.2.2.1.End, ckinds.2.2.2.1.End, ckinds.2.2.2.2.End] : List Int).getD u0.toNat 0⟩ : Kind) u1) (([ckinds.1.Size, ckinds.2.1.Size, ckinds.2.2.1.Size, ckinds.2.2.2.1.Size, ckinds.2.2.2.2.Size] : List Int).getD u0.toNat 0)), i6 0]) ?_
 exact ⟨((bwriteS (ksumS (⟨([ckinds.1.Size, ckinds.2.1.Size, ckinds.2.2.1.Size, ckinds.2.2.2.1.Size, ckinds.2.2.2.2.Size] : List Int).getD u0.toNat 0, ([ckinds.1.Poly, ckinds.2.1.Poly, ckinds.2.2.1.Poly, ckinds.2.2.2.1.Poly, ckinds.2.2.2.2.Poly] : List Int).getD u0.toNat 0, ([ckinds.1.From, ckinds.2.1.From, ckinds.2.2.1.From, ckinds.2.2.2.1.From, ckinds.2.2.2.2.From] : List Int).getD u0.toNat 0, ([ckinds.1.End, ckinds.2.1.End, ckinds.2.2.1.End, ckinds.2.2.2.1.End, ckinds.2.2.2.2.End] : List Int).getD u0.toNat 0⟩ : Kind) u1) (([ckinds.1.Size, ckinds.2.1.Size, ckinds.2.2.1.Size, ckinds.2.2.2.1.Size, ckinds.2.2.2.2.Size] : List Int).getD u0.toNat 0)), 0), rfl, ax, az.below⟩

theorem bof_walk (u0 : List Int) (ao1 : Option Addr) (cap2 : Nat) (Z : Fz) (w : World) (hs3 : SlR t8 Z ao1 cap2 u0) (hZ : Z.on w) {K : ((List UInt8) × Int) → Prop} (hp : bof_vc u0 K) : Calls Tryz.prog 73 #[.slice ao1 u0.length cap2] w fun e w' => ∃ r : (List UInt8) × Int, e = .returned (.tuple #[str r.1, i6 r.2]) ∧ K r ∧ Below w.heap.size w w' := by
 refine enter0 Tryz.func73 rfl rfl (by kernel_rfl) ?_; intro a0 u; have g := Mem.start w Z hZ; have aL := Fz.le.refl Z
 have hzB := Go.Sy.zB hZ
 have j := hp (hs3.small); clear hp
 refine sqB u g [] [] [] ?_; intro a8 v; clear u
 refine wp_seq ?_
 refine sqB v g [] [] [(9, .bool (decide ((u0.length : Int) > 125)))] ?_; intro aM h; clear v
 refine cd h (t := decide ((u0.length : Int) > 125)) (by kernel_rfl) (fun m => ?_) (fun m => ?_)
 ·
  have ae := j.1 m; clear j
  refine sqB h g [] [] [(2, str []), (3, i6 2)] ?_; intro aN af; clear h
  refine wp_ret ?_
  refine thr ?_
  refine ra2 af (.tuple #[str [], i6 2]) ?_
  exact ⟨([], 2), rfl, ae, g.below⟩
 have ag := j.2 m; clear j
 refine wp_skip ?_
 refine thn ?_
 refine sqH ?_; intro ah x
 refine nw h g pb [.pointer none, .slice none 0 0] 133 ?_; intro a aO ai y n; clear h g
 refine nlH (x _ _ ?_); clear x ah
 refine wp_seq ?_
 refine sqB y n [] [] [(10, .slice ao1 u0.length cap2), (11, i6 (u0.length : Int)), (12, i6 0)] ?_; intro z A; clear y
 refine wp_block ?_
 have B : Fr 22 [] [⟨4, [], pt a 0⟩, ⟨10, [], .slice ao1 u0.length cap2⟩, ⟨11, [], i6 (u0.length : Int)⟩, ⟨12, [], i6 0⟩] z := A.reg; clear A
 have C : Mem w.heap.size [] w Z [.row a [.pointer none, .slice none ([] : List UInt8).length 0] 133, .own tyByte 5 none 0 ([] : List UInt8)] Z ai := n.bldNil 5; clear n
 have D : Fr 22 [] [⟨4, [], pt a 0⟩, ⟨10, [], .slice ao1 u0.length cap2⟩, ⟨11, [], i6 (u0.length : Int)⟩, ⟨12, [], i6 0⟩] z := B.reg; clear B
 obtain ⟨aj, ak, al, am⟩ := ag
 refine lp (ι := Int × (List UInt8) × Value × (Option Addr) × Nat) (fun s => [⟨4, [], pt a 0⟩, ⟨10, [], .slice ao1 u0.length cap2⟩, ⟨11, [], i6 (u0.length : Int)⟩, ⟨12, [], i6 s.1⟩]) (fun s => [.row a [s.2.2.1, .slice s.2.2.2.1 s.2.1.length s.2.2.2.2] 133, .own tyByte 5 s.2.2.2.1 s.2.2.2.2 s.2.1]) (fun s => Z) (fun s => aj s.1 s.2.1 ∧ (s.2.2.1 = .pointer none ∨ s.2.2.1 = pt a 0)) (fun s => ak s.1 s.2.1) ⟨0, ([] : List UInt8), (.pointer none), none, 0⟩ ⟨al, (.inl rfl)⟩ (by exact D.reg) (by exact C) ?_
 rintro ⟨f, c, an, E, F⟩ ⟨ao, G⟩ ap aq H I
 have J : Fr 22 [] [⟨4, [], pt a 0⟩, ⟨10, [], .slice ao1 u0.length cap2⟩, ⟨11, [], i6 (u0.length : Int)⟩, ⟨12, [], i6 f⟩] ap := H; clear H D
 have d : Mem w.heap.size [] w Z [.row a [an, .slice E c.length F] 133, .own tyByte 5 E F c] Z aq := I; clear I C
 have l := am f c ao
 refine sqB J d [] [] [(13, .bool (decide (f < (u0.length : Int))))] ?_; intro aP i; clear J
 refine wp_seq ?_
 refine cd i (t := decide (f < (u0.length : Int))) (by kernel_rfl) (fun o => ?_) (fun o => ?_)
 ·
  have ar := l.1 o; clear l
  refine wp_skip ?_
  refine thn ?_
  refine wp_seq ?_
  refine wp_block ?_
  refine sqH ?_; intro au L
  obtain ⟨av, M⟩ := ar
  refine ix i (T := t8) (xs := u0) hs3 f av (k := .i64) (e := 5) (bytes := 1) (nog rfl _) rfl (by kernel_rfl) rfl (by kernel_rfl) (by kernel_rfl) (by kernel_rfl) ?_; intro aQ aR aw b aS ax ay az N; clear i
  have aA := M b ax; clear M
  obtain rfl : aw = ([y8 b] : List Value) := az
  refine z1 N d 15 ay 0 (y8 b) rfl ?_; intro aT O; clear N
  refine s1 O 6 (y8 b) ?_; intro aU P; clear O
  refine nlH (L _ _ ?_); clear L au
  refine rgH ?_; intro aB Q
  refine bt P d 2 [] [] [(17, y6 (wu64 b))] ?_; intro aV R; clear P
  obtain ⟨aC, aD⟩ := aA
  refine fc R d (bwrite_fun (wu64 b) 8 aC _ _ d.fz) ?_; intro aW aX S U; clear R d
  obtain ⟨aE, V⟩ := aD
  refine ck S 98 #[pt a 0, str (bwriteS (wu64 b) 8)] ?_
  refine (Go.Sy.bld_write Tryz.lays166 Tryz.lays166X U hzB G aE).mono ?_; rintro _ aF ⟨p, q, rfl, hm⟩; refine ⟨_, rfl, ?_⟩; intro aY W; have X := hm; clear hm U S
  have Y : Mem w.heap.size [] w Z [.row a [pt a 0, .slice p (c ++ (bwriteS (wu64 b) 8)).length q] 133, .own tyByte 5 p q (c ++ (bwriteS (wu64 b) 8))] Z aF := X; clear X
  refine nlH (Q _ _ ?_); clear Q aB
  refine ibn ?_
  refine thn ?_
  refine rgB W Y [] [] [(12, i6 (w64 (f + 1)))] ?_; intro aZ aG; clear W
  refine rd ?_
  exact ⟨⟨w64 (f + 1), c ++ (bwriteS (wu64 b) 8), (pt a 0), p, q⟩, ⟨V.1, (.inr rfl)⟩, V.2, (aG.reg).anyβ _ (by kernel_rfl), Y.keep (List.Sublist.cons_cons _ (List.Sublist.cons_cons _ (List.Sublist.slnil)))⟩
 have aH := l.2 o; clear l
 refine wp_exit ?_
 refine thx ?_
 refine thx ?_
 refine ibx ?_
 refine thn ?_
 refine sqH ?_; intro aI aa
 refine ck i 99 #[pt a 0] ?_
 refine (Go.Sy.bld_string Tryz.lays169 Tryz.lays169X d hzB G).mono ?_; rintro _ aJ ⟨rfl, hm⟩; refine ⟨_, rfl, ?_⟩; intro a1 ab; have ac := hm; clear hm d i
 have ad : Mem w.heap.size [] w Z [] Z aJ := ac; clear ac
 refine bt ab ad 2 [] [] [(2, str c), (3, i6 0)] ?_; intro a2 aK; clear ab
 refine nlH (aa _ _ ?_); clear aa aI
 refine wp_ret ?_
 refine ra2 aK (.tuple #[str c, i6 0]) ?_
 exact ⟨(c, 0), rfl, aH, ad.below⟩



theorem rtakeF_walk (u0 : FReader) (u1 : Int) (b1 : Nat) (ao2 : Option Addr) (cap3 : Nat) (B : Nat) (w0 : World) (Z0 : Fz) (Rr : List Res) (Z : Fz) (w : World) (hs4 : SlR t8 Z ao2 cap3 u0.f.Data) (hM0 : Mem B [] w0 Z0 ((.row b1 [str u0.Reader.Row, i6 u0.Reader.At, i6 u0.Reader.Code, y8 u0.Reader.c.last, i6 u0.Reader.c.n, i6 u0.f.ID, .bool u0.f.Long, .bool u0.f.Fast, .bool u0.f.Remote, i6 u0.f.Size, .slice ao2 u0.f.Data.length cap3] 61) :: Rr) Z w) (hZ : Z.on w) {K : ((List UInt8) × FReader) → Prop} (hp : rtakeF_vc u0 u1 K) : Calls Tryz.prog 36 #[pt b1 0, i6 u1] w fun e w' => ∃ (r : (List UInt8) × FReader) (ao1001 : Option Addr) (cap1002 : Nat) (Z' : Fz), e = .returned (str r.1) ∧ K r ∧ Fz.le Z Z' ∧ SlR t8 Z' ao1001 cap1002 r.2.f.Data ∧ Mem B [] w0 Z0 ((.row b1 [str r.2.Reader.Row, i6 r.2.Reader.At, i6 r.2.Reader.Code, y8 r.2.Reader.c.last, i6 r.2.Reader.c.n, i6 r.2.f.ID, .bool r.2.f.Long, .bool r.2.f.Fast, .bool r.2.f.Remote, i6 r.2.f.Size, .slice ao1001 r.2.f.Data.length cap1002] 61) :: Rr) Z' w' := by
 refine enter0 Tryz.func36 rfl rfl (by kernel_rfl) ?_; intro a0 aB; have l := Fz.le.refl Z
 have bN := hp (hs4.small); clear hp
 refine sqB aB hM0 [] [] [] ?_; intro a7 aC; clear aB
 refine sqB aC hM0 [] [] [(5, .slice none 0 0)] ?_; intro cJ aD; clear aC
 refine wp_seq ?_
 refine sqB aD hM0 [] [] [(10, i6 u1), (11, i6 0)] ?_; intro aE aF; clear aD
 refine wp_block ?_
 have aG : Fr 61 [] [⟨0, [], pt b1 0⟩, ⟨5, [], .slice none 0 0⟩, ⟨10, [], i6 u1⟩, ⟨11, [], i6 0⟩] aE := aF.reg; clear aF
 have aH : Mem B [] w0 Z0 ((.own t8 5 none 0 ([] : List Int)) :: (.row b1 (e61B u0 ao2 cap3) 61) :: Rr) Z w := hM0.addNil t8 5 (by decide); clear hM0
 have aI : Fr 61 [] [⟨0, [], pt b1 0⟩, ⟨5, [], .slice none ([] : List Int).length 0⟩, ⟨10, [], i6 u1⟩, ⟨11, [], i6 0⟩] aE := aG.reg; clear aG
 obtain ⟨bO, bP, bQ, bR⟩ := bN
 have cK := l
 refine lp (ι := (List Int) × Int × FReader × (Option Addr) × Nat × (Option Addr) × Nat × Fz) (fun s => [⟨0, [], pt b1 0⟩, ⟨5, [], .slice s.2.2.2.1 s.1.length s.2.2.2.2.1⟩, ⟨10, [], i6 u1⟩, ⟨11, [], i6 s.2.1⟩]) (fun s => ((.own t8 5 s.2.2.2.1 s.2.2.2.2.1 s.1) :: (.row b1 [str s.2.2.1.Reader.Row, i6 s.2.2.1.Reader.At, i6 s.2.2.1.Reader.Code, y8 s.2.2.1.Reader.c.last, i6 s.2.2.1.Reader.c.n, i6 s.2.2.1.f.ID, .bool s.2.2.1.f.Long, .bool s.2.2.1.f.Fast, .bool s.2.2.1.f.Remote, i6 s.2.2.1.f.Size, .slice s.2.2.2.2.2.1 s.2.2.1.f.Data.length s.2.2.2.2.2.2.1] 61) :: Rr)) (fun s => s.2.2.2.2.2.2.2) (fun s => bO s.1 s.2.1 s.2.2.1 ∧ SlR t8 s.2.2.2.2.2.2.2 s.2.2.2.2.2.1 s.2.2.2.2.2.2.1 s.2.2.1.f.Data ∧ Fz.le Z s.2.2.2.2.2.2.2) (fun s => bP s.1 s.2.1 s.2.2.1) ⟨([] : List Int), 0, u0, none, 0, ao2, cap3, Z⟩ ⟨bQ, hs4, Fz.le.refl _⟩ (by exact aI.reg) (by exact aH) ?_
 rintro ⟨i, u, k, F, G, Y, aa, al⟩ ⟨bS, o, m⟩ bT bU aJ aK
 have aL : Fr 61 [] [⟨0, [], pt b1 0⟩, ⟨5, [], .slice F i.length G⟩, ⟨10, [], i6 u1⟩, ⟨11, [], i6 u⟩] bT := aJ; clear aJ aI
 have C : Mem B [] w0 Z0 ((.own t8 5 F G i) :: (.row b1 (e61B k Y aa) 61) :: Rr) al bU := aK; clear aK aH
 have ab := bR i u k bS
 replace l := Fz.le.trans l m
 have A := hs4.mono m
 refine sqB aL C [] [] [(12, .bool (decide (u < u1)))] ?_; intro cL P; clear aL
 refine wp_seq ?_
 refine cd P (t := decide (u < u1)) (by kernel_rfl) (fun am => ?_) (fun am => ?_)
 ·
  have bV := ab.1 am; clear ab
  refine wp_skip ?_
  refine thn ?_
  refine wp_seq ?_
  refine wp_block ?_
  refine sqH ?_; intro bW aM
  refine s1 P 13 (pt b1 0) ?_; intro cM aN; clear P
  obtain ⟨bX, aO⟩ := bV
  refine ck aN 68 #[pt b1 0] ?_
  obtain ⟨a, bY, aP⟩ := hxq aO; clear aO
  have j := rbitF_fun k bX b1 Y aa _ _ _ _ _ _ o (C.perm (pk 1 rfl)) C.fz; rw [bY] at j; refine j.mono ?_; clear j; rintro _ bZ ⟨ac, ad, an, rfl, ae, v, hm⟩; refine ⟨_, rfl, ?_⟩; intro cN aQ; have aR := hm; clear hm C aN
  replace A := A.mono ae
  replace o := o.mono ae
  replace m := m.mono ae
  replace l := Fz.le.trans l ae
  have N : Mem B [] w0 Z0 ((.row b1 (e61B a.2 ac ad) 61) :: (.own t8 5 F G i) :: Rr) an bZ := aR; clear aR
  have af := aP (v.small); clear aP
  refine s1 aQ 6 (y8 a.1) ?_; intro cO aS; clear aQ
  refine nlH (aM _ _ ?_); clear aM bW
  refine wp_seq ?_
  refine sqB aS N [0] [] [(19, .bool (a.2.Reader.Code != 0))] ?_; intro cP Q; clear aS
  refine cd Q (t := a.2.Reader.Code != 0) (by kernel_rfl) (fun aq => ?_) (fun aq => ?_)
  ·
   have b0 := af.1 aq; clear af
   refine sqB Q N [] [] [(4, str [])] ?_; intro cQ b2; clear Q
   refine wp_ret ?_
   refine thr ?_
   refine ibr ?_
   refine thr ?_
   refine thr ?_
   refine ibr ?_
   refine thr ?_
   refine ra1 b2 (str []) ?_
   exact ⟨([], a.2), ac, ad, an, rfl, b0, l, v, N.keep (List.Sublist.cons_cons _ (List.Sublist.cons _ (List.Sublist.refl _)))⟩
  have b3 := af.2 aq; clear af
  refine wp_skip ?_
  refine thn ?_
  refine sqH ?_; intro b4 aT
  refine bt Q N 2 [] [] [(20, .slice F i.length G), (21, y8 a.1)] ?_; intro cR aU; clear Q
  refine nw aU N (fun b => .slice (sm b) 1 1) [y8 a.1] 5 ?_; intro H cS cT aV ar; clear aU N
  obtain ⟨b5, b6⟩ := b3
  refine ap aV ar 2 (T := t8) (xs := i) (ys := [a.1]) (ao := F) (cap := G) (ao2 := (sm H)) (cap2 := 1) (t := 22) (e := 5) (bytes := 1) (nog rfl _) rfl (by kernel_rfl) rfl (by kernel_rfl) (by kernel_rfl) (by kernel_rfl) rfl (Src.row ar 0 rfl (RepAll.one (T := t8) (x := a.1) rfl)) b5 ?_; intro y z cU b7 cV aW aX; clear aV ar
  have ag : Mem B [] w0 Z0 ((.row H [y8 a.1] 5) :: (.row b1 (e61B a.2 ac ad) 61) :: (.own t8 5 y z (i ++ [a.1])) :: Rr) an b7 := aX; clear aX
  refine s1 aW 5 (.slice y (i ++ [a.1]).length z) ?_; intro cW aY; clear aW
  refine nlH (aT _ _ ?_); clear aT b4
  refine sqH ?_; intro b8 aZ
  refine bt aY ag 4 [] [] [(27, pt b1 3), (28, y8 a.1)] ?_; intro cX a1; clear aY
  obtain ⟨b9, a2⟩ := b6
  refine ck a1 69 #[pt b1 3, y8 a.1] ?_
  obtain ⟨h, ca, a3⟩ := hxq a2; clear a2
  have j := cnextF_fun a.2 a.1 b9 b1 ac ad _ _ _ _ _ _ v (ag.perm (pk 1 rfl)) ag.fz; rw [ca] at j; refine j.mono ?_; clear j; rintro _ cb ⟨au, av, a4, rfl, R, D, hm⟩; refine ⟨_, rfl, ?_⟩; intro cY a5; have a6 := hm; clear hm ag a1
  replace A := A.mono R
  replace o := o.mono R
  replace m := m.mono R
  replace v := v.mono R
  replace l := Fz.le.trans l R
  have I : Mem B [] w0 Z0 ((.row b1 (e61B h.2.2 au av) 61) :: (.row H [y8 a.1] 5) :: (.own t8 5 y z (i ++ [a.1])) :: Rr) a4 cb := a6; clear a6
  have ah := a3 (D.small); clear a3
  refine bt a5 I 5 [] [] [(7, y8 h.1), (8, .bool h.2.1)] ?_; intro cZ a8; clear a5
  refine nlH (aZ _ _ ?_); clear aZ b8
  refine sqB a8 I [] [] [(32, .bool h.2.1)] ?_; intro c0 S; clear a8
  refine cd S (t := h.2.1) (by kernel_rfl) (fun aw => ?_) (fun aw => ?_)
  ·
   have cc := ah.1 aw; clear ah
   refine wp_seq ?_
   refine sqH ?_; intro ce a9
   refine s1 S 33 (pt b1 0) ?_; intro c1 ba; clear S
   obtain ⟨cf, bb⟩ := cc
   refine ck ba 68 #[pt b1 0] ?_
   obtain ⟨d, cg, bc⟩ := hxq bb; clear bb
   have j := rbitF_fun h.2.2 cf b1 au av _ _ _ _ _ _ D I I.fz; rw [cg] at j; refine j.mono ?_; clear j; rintro _ ch ⟨U, V, bd, rfl, O, J, hm⟩; refine ⟨_, rfl, ?_⟩; intro c2 be; have bf := hm; clear hm I ba
   replace A := A.mono O
   replace o := o.mono O
   replace m := m.mono O
   replace v := v.mono O
   replace D := D.mono O
   replace l := Fz.le.trans l O
   have E : Mem B [] w0 Z0 ((.row b1 (e61B d.2 U V) 61) :: (.row H [y8 a.1] 5) :: (.own t8 5 y z (i ++ [a.1])) :: Rr) bd ch := bf; clear bf
   have ai := bc (J.small); clear bc
   refine s1 be 9 (y8 d.1) ?_; intro c3 bg; clear be
   refine nlH (a9 _ _ ?_); clear a9 ce
   refine sqB bg E [0] [] [(44, .bool ((d.2.Reader.Code == 0) && (d.1 != h.1)))] ?_; intro c4 W; clear bg
   refine cd W (t := (d.2.Reader.Code == 0) && (d.1 != h.1)) (by kernel_rfl) (fun ax => ?_) (fun ax => ?_)
   ·
    have ci := ai.1 ax; clear ai
    refine rgH ?_; intro cj bh
    refine bt W E 3 [] [] [(47, pt b1 2)] ?_; intro c5 ay; clear W
    refine sx ay E 0 [str d.2.Reader.Row, i6 d.2.Reader.At, i6 5, y8 d.2.Reader.c.last, i6 d.2.Reader.c.n, i6 d.2.f.ID, .bool d.2.f.Long, .bool d.2.f.Fast, .bool d.2.f.Remote, i6 d.2.f.Size, .slice U d.2.f.Data.length V] 2 ?_; intro cl bi; clear E
    have aj : Mem B [] w0 Z0 ((.row b1 [str d.2.Reader.Row, i6 d.2.Reader.At, i6 5, y8 d.2.Reader.c.last, i6 d.2.Reader.c.n, i6 d.2.f.ID, .bool d.2.f.Long, .bool d.2.f.Fast, .bool d.2.f.Remote, i6 d.2.f.Size, .slice U d.2.f.Data.length V] 61) :: (.row H [y8 a.1] 5) :: (.own t8 5 y z (i ++ [a.1])) :: Rr) bd cl := bi; clear bi
    refine nlH (bh _ _ ?_); clear bh cj
    refine thn ?_
    refine rgH ?_; intro cm bj
    refine bt ay aj 4 [] [] [(50, pt b1 3), (51, y8 h.1)] ?_; intro c6 bk; clear ay
    obtain ⟨cn, bl⟩ := ci
    refine ck bk 69 #[pt b1 3, y8 h.1] ?_
    obtain ⟨p, co, bm⟩ := hxq bl; clear bl
    have j := cnextF_fun (⟨(⟨d.2.Reader.Row, d.2.Reader.At, 5, d.2.Reader.c⟩ : Reader), d.2.f⟩ : FReader) h.1 cn b1 U V _ _ _ _ _ _ J aj aj.fz; rw [co] at j; refine j.mono ?_; clear j; rintro _ cp ⟨bn, bo, bp, rfl, L, bq, hm⟩; refine ⟨_, rfl, ?_⟩; intro cq br; have bs := hm; clear hm aj bk
    replace A := A.mono L
    replace o := o.mono L
    replace m := m.mono L
    replace v := v.mono L
    replace D := D.mono L
    replace J := J.mono L
    replace l := Fz.le.trans l L
    have bu : Mem B [] w0 Z0 ((.row b1 (e61B p.2.2 bn bo) 61) :: (.row H [y8 a.1] 5) :: (.own t8 5 y z (i ++ [a.1])) :: Rr) bp cp := bs; clear bs
    have bv := bm (bq.small); clear bm
    refine nlH (bj _ _ ?_); clear bj cm
    refine ibn ?_
    refine thn ?_
    have bw : Fr 61 [] [⟨0, [], pt b1 0⟩, ⟨5, [], .slice y (i ++ [a.1]).length z⟩, ⟨10, [], i6 u1⟩, ⟨11, [], i6 u⟩] cq := br.reg; clear br
    refine rgB bw bu [] [] [(11, i6 (w64 (u + 1)))] ?_; intro c7 cr; clear bw
    refine rd ?_
    have cs := bu.perm ((pk 2 rfl).trans (lpr.cons _))
    exact ⟨⟨i ++ [a.1], w64 (u + 1), p.2.2, y, z, bn, bo, bp⟩, ⟨bv.1, bq, m⟩, bv.2, (cr.reg).anyβ _ (by kernel_rfl), cs.keep (List.Sublist.cons_cons _ (List.Sublist.cons_cons _ (List.Sublist.cons _ (List.Sublist.refl _))))⟩
   have ct := ai.2 ax; clear ai
   refine wp_skip ?_
   refine thn ?_
   refine rgH ?_; intro cu bx
   refine bt W E 4 [] [] [(50, pt b1 3), (51, y8 h.1)] ?_; intro c8 bz; clear W
   obtain ⟨cv, bA⟩ := ct
   refine ck bz 69 #[pt b1 3, y8 h.1] ?_
   obtain ⟨q, cw, bB⟩ := hxq bA; clear bA
   have j := cnextF_fun d.2 h.1 cv b1 U V _ _ _ _ _ _ J E E.fz; rw [cw] at j; refine j.mono ?_; clear j; rintro _ cx ⟨bC, bD, bE, rfl, M, bF, hm⟩; refine ⟨_, rfl, ?_⟩; intro c9 bG; have bH := hm; clear hm E bz
   replace A := A.mono M
   replace o := o.mono M
   replace m := m.mono M
   replace v := v.mono M
   replace D := D.mono M
   replace J := J.mono M
   replace l := Fz.le.trans l M
   have bI : Mem B [] w0 Z0 ((.row b1 (e61B q.2.2 bC bD) 61) :: (.row H [y8 a.1] 5) :: (.own t8 5 y z (i ++ [a.1])) :: Rr) bE cx := bH; clear bH
   have bJ := bB (bF.small); clear bB
   refine nlH (bx _ _ ?_); clear bx cu
   refine ibn ?_
   refine thn ?_
   refine rgB bG bI [] [] [(11, i6 (w64 (u + 1)))] ?_; intro da cy; clear bG
   refine rd ?_
   have cz := bI.perm ((pk 2 rfl).trans (lpr.cons _))
   exact ⟨⟨i ++ [a.1], w64 (u + 1), q.2.2, y, z, bC, bD, bE⟩, ⟨bJ.1, bF, m⟩, bJ.2, (cy.reg).anyβ _ (by kernel_rfl), cz.keep (List.Sublist.cons_cons _ (List.Sublist.cons_cons _ (List.Sublist.cons _ (List.Sublist.refl _))))⟩
  have bK := ah.2 aw; clear ah
  refine wp_skip ?_
  refine ibn ?_
  refine thn ?_
  refine rgB S I [] [] [(11, i6 (w64 (u + 1)))] ?_; intro db cA; clear S
  refine rd ?_
  have cB := I.perm ((pk 2 rfl).trans (lpr.cons _))
  exact ⟨⟨i ++ [a.1], w64 (u + 1), h.2.2, y, z, au, av, a4⟩, ⟨bK.1, D, m⟩, bK.2, (cA.reg).anyβ _ (by kernel_rfl), cB.keep (List.Sublist.cons_cons _ (List.Sublist.cons_cons _ (List.Sublist.cons _ (List.Sublist.refl _))))⟩
 have ak := ab.2 am; clear ab
 refine wp_exit ?_
 refine thx ?_
 refine thx ?_
 refine ibx ?_
 refine thn ?_
 refine wp_seq ?_
 refine sqB P C [1] [] [(58, .bool (k.Reader.Code != 0))] ?_; intro dc X; clear P
 refine cd X (t := k.Reader.Code != 0) (by kernel_rfl) (fun az => ?_) (fun az => ?_)
 ·
  have cC := ak.1 az; clear ak
  refine sqB X C [] [] [(4, str [])] ?_; intro dd cD; clear X
  refine wp_ret ?_
  refine thr ?_
  refine ra1 cD (str []) ?_
  exact ⟨([], k), Y, aa, al, rfl, cC, l, o, C.keep (List.Sublist.cons _ (List.Sublist.cons_cons _ (List.Sublist.refl _)))⟩
 have cE := ak.2 az; clear ak
 refine wp_skip ?_
 refine thn ?_
 refine sqH ?_; intro cF bL
 refine s1 X 59 (.slice F i.length G) ?_; intro de aA; clear X
 refine st aA (str (bstr i)) (nog rfl _) rfl (by kernel_rfl) ((by obtain ⟨Z9, df, cG, cH⟩ := C.lend 0 rfl; exact bstr_op aA (g := []) (e := 5) (ao := F) (cap := G) (xs := i) rfl (by kernel_rfl) (by kernel_rfl) (by kernel_rfl) (by kernel_rfl)  cH cG rfl)) ?_; intro dg bM; clear aA
 refine s1 bM 4 (str (bstr i)) ?_; intro dh cI; clear bM
 refine nlH (bL _ _ ?_); clear bL cF
 refine wp_ret ?_
 refine ra1 cI (str (bstr i)) ?_
 exact ⟨(bstr i, k), Y, aa, al, rfl, cE, l, o, C.keep (List.Sublist.cons _ (List.Sublist.cons_cons _ (List.Sublist.refl _)))⟩

theorem rplainF_walk (u0 : FReader) (u1 : Int) (b1 : Nat) (ao2 : Option Addr) (cap3 : Nat) (B : Nat) (w0 : World) (Z0 : Fz) (Rr : List Res) (Z : Fz) (w : World) (hs4 : SlR t8 Z ao2 cap3 u0.f.Data) (hM0 : Mem B [] w0 Z0 ((.row b1 [str u0.Reader.Row, i6 u0.Reader.At, i6 u0.Reader.Code, y8 u0.Reader.c.last, i6 u0.Reader.c.n, i6 u0.f.ID, .bool u0.f.Long, .bool u0.f.Fast, .bool u0.f.Remote, i6 u0.f.Size, .slice ao2 u0.f.Data.length cap3] 61) :: Rr) Z w) (hZ : Z.on w) {K : ((List UInt8) × FReader) → Prop} (hp : rplainF_vc u0 u1 K) : Calls Tryz.prog 41 #[pt b1 0, i6 u1] w fun e w' => ∃ (r : (List UInt8) × FReader) (ao1001 : Option Addr) (cap1002 : Nat) (Z' : Fz), e = .returned (str r.1) ∧ K r ∧ Fz.le Z Z' ∧ SlR t8 Z' ao1001 cap1002 r.2.f.Data ∧ Mem B [] w0 Z0 ((.row b1 [str r.2.Reader.Row, i6 r.2.Reader.At, i6 r.2.Reader.Code, y8 r.2.Reader.c.last, i6 r.2.Reader.c.n, i6 r.2.f.ID, .bool r.2.f.Long, .bool r.2.f.Fast, .bool r.2.f.Remote, i6 r.2.f.Size, .slice ao1001 r.2.f.Data.length cap1002] 61) :: Rr) Z' w' := by
 refine enter0 Tryz.func41 rfl rfl (by kernel_rfl) ?_; intro a0 P; have j := Fz.le.refl Z
 have ay := hp (hs4.small); clear hp
 refine sqB P hM0 [] [] [] ?_; intro a7 Q; clear P
 refine sqB Q hM0 [] [] [(5, .slice none 0 0)] ?_; intro aX R; clear Q
 refine wp_seq ?_
 refine sqB R hM0 [] [] [(6, i6 u1), (7, i6 0)] ?_; intro S U; clear R
 refine wp_block ?_
 have V : Fr 22 [] [⟨0, [], pt b1 0⟩, ⟨5, [], .slice none 0 0⟩, ⟨6, [], i6 u1⟩, ⟨7, [], i6 0⟩] S := U.reg; clear U
 have W : Mem B [] w0 Z0 ((.own t8 5 none 0 ([] : List Int)) :: (.row b1 (e61B u0 ao2 cap3) 61) :: Rr) Z w := hM0.addNil t8 5 (by decide); clear hM0
 have X : Fr 22 [] [⟨0, [], pt b1 0⟩, ⟨5, [], .slice none ([] : List Int).length 0⟩, ⟨6, [], i6 u1⟩, ⟨7, [], i6 0⟩] S := V.reg; clear V
 obtain ⟨az, aA, aB, aC⟩ := ay
 have aY := j
 refine lp (ι := (List Int) × Int × FReader × (Option Addr) × Nat × (Option Addr) × Nat × Fz) (fun s => [⟨0, [], pt b1 0⟩, ⟨5, [], .slice s.2.2.2.1 s.1.length s.2.2.2.2.1⟩, ⟨6, [], i6 u1⟩, ⟨7, [], i6 s.2.1⟩]) (fun s => ((.own t8 5 s.2.2.2.1 s.2.2.2.2.1 s.1) :: (.row b1 [str s.2.2.1.Reader.Row, i6 s.2.2.1.Reader.At, i6 s.2.2.1.Reader.Code, y8 s.2.2.1.Reader.c.last, i6 s.2.2.1.Reader.c.n, i6 s.2.2.1.f.ID, .bool s.2.2.1.f.Long, .bool s.2.2.1.f.Fast, .bool s.2.2.1.f.Remote, i6 s.2.2.1.f.Size, .slice s.2.2.2.2.2.1 s.2.2.1.f.Data.length s.2.2.2.2.2.2.1] 61) :: Rr)) (fun s => s.2.2.2.2.2.2.2) (fun s => az s.1 s.2.1 s.2.2.1 ∧ SlR t8 s.2.2.2.2.2.2.2 s.2.2.2.2.2.1 s.2.2.2.2.2.2.1 s.2.2.1.f.Data ∧ Fz.le Z s.2.2.2.2.2.2.2) (fun s => aA s.1 s.2.1 s.2.2.1) ⟨([] : List Int), 0, u0, none, 0, ao2, cap3, Z⟩ ⟨aB, hs4, Fz.le.refl _⟩ (by exact X.reg) (by exact W) ?_
 rintro ⟨h, m, d, k, l, v, y, D⟩ ⟨aD, o, p⟩ aE aF Y aa
 have ab : Fr 22 [] [⟨0, [], pt b1 0⟩, ⟨5, [], .slice k h.length l⟩, ⟨6, [], i6 u1⟩, ⟨7, [], i6 m⟩] aE := Y; clear Y X
 have i : Mem B [] w0 Z0 ((.own t8 5 k l h) :: (.row b1 (e61B d v y) 61) :: Rr) D aF := aa; clear aa W
 have z := aC h m d aD
 replace j := Fz.le.trans j p
 have ac := hs4.mono p
 refine sqB ab i [] [] [(8, .bool (decide (m < u1)))] ?_; intro aZ q; clear ab
 refine wp_seq ?_
 refine cd q (t := decide (m < u1)) (by kernel_rfl) (fun E => ?_) (fun E => ?_)
 ·
  have aG := z.1 E; clear z
  refine wp_skip ?_
  refine thn ?_
  refine wp_seq ?_
  refine wp_block ?_
  refine rgH ?_; intro aH ad
  refine bt q i 2 [] [] [(9, .slice k h.length l), (10, pt b1 0)] ?_; intro a1 ae; clear q
  obtain ⟨aI, af⟩ := aG
  refine ck ae 68 #[pt b1 0] ?_
  obtain ⟨a, aJ, ag⟩ := hxq af; clear af
  have F := rbitF_fun d aI b1 v y _ _ _ _ _ _ o (i.perm (pk 1 rfl)) i.fz; rw [aJ] at F; refine F.mono ?_; clear F; rintro _ aK ⟨G, H, I, rfl, A, ah, hm⟩; refine ⟨_, rfl, ?_⟩; intro a2 ai; have aj := hm; clear hm i ae
  replace ac := ac.mono A
  replace o := o.mono A
  replace p := p.mono A
  replace j := Fz.le.trans j A
  have ak : Mem B [] w0 Z0 ((.row b1 (e61B a.2 G H) 61) :: (.own t8 5 k l h) :: Rr) I aK := aj; clear aj
  have aL := ag (ah.small); clear ag
  refine nw ai ak (fun b => .slice (sm b) 1 1) [y8 a.1] 5 ?_; intro al a3 a4 am J; clear ai ak
  obtain ⟨aM, an⟩ := aL
  refine ap am J 2 (T := t8) (xs := h) (ys := [a.1]) (ao := k) (cap := l) (ao2 := (sm al)) (cap2 := 1) (t := 22) (e := 5) (bytes := 1) (nog rfl _) rfl (by kernel_rfl) rfl (by kernel_rfl) (by kernel_rfl) (by kernel_rfl) rfl (Src.row J 0 rfl (RepAll.one (T := t8) (x := a.1) rfl)) aM ?_; intro L M a5 aN a6 aq ar; clear am J
  have au : Mem B [] w0 Z0 ((.row al [y8 a.1] 5) :: (.row b1 (e61B a.2 G H) 61) :: (.own t8 5 L M (h ++ [a.1])) :: Rr) I aN := ar; clear ar
  refine s1 aq 5 (.slice L (h ++ [a.1]).length M) ?_; intro a8 av; clear aq
  refine nlH (ad _ _ ?_); clear ad aH
  refine ibn ?_
  refine thn ?_
  refine rgB av au [] [] [(7, i6 (w64 (m + 1)))] ?_; intro a9 aO; clear av
  refine rd ?_
  have aP := au.perm ((pk 2 rfl).trans (((pk 1 rfl).trans (lpr.cons _)).cons _))
  exact ⟨⟨h ++ [a.1], w64 (m + 1), a.2, L, M, G, H, I⟩, ⟨an.1, ah, p⟩, an.2, (aO.reg).anyβ _ (by kernel_rfl), aP.keep (List.Sublist.cons_cons _ (List.Sublist.cons_cons _ (List.Sublist.cons _ (List.Sublist.refl _))))⟩
 have C := z.2 E; clear z
 refine wp_exit ?_
 refine thx ?_
 refine thx ?_
 refine ibx ?_
 refine thn ?_
 refine wp_seq ?_
 refine sqB q i [1] [] [(19, .bool (d.Reader.Code != 0))] ?_; intro ba u; clear q
 refine cd u (t := d.Reader.Code != 0) (by kernel_rfl) (fun N => ?_) (fun N => ?_)
 ·
  have aQ := C.1 N; clear C
  refine sqB u i [] [] [(4, str [])] ?_; intro bb aR; clear u
  refine wp_ret ?_
  refine thr ?_
  refine ra1 aR (str []) ?_
  exact ⟨([], d), v, y, D, rfl, aQ, j, o, i.keep (List.Sublist.cons _ (List.Sublist.cons_cons _ (List.Sublist.refl _)))⟩
 have aS := C.2 N; clear C
 refine wp_skip ?_
 refine thn ?_
 refine sqH ?_; intro aT aw
 refine s1 u 20 (.slice k h.length l) ?_; intro bc O; clear u
 refine st O (str (bstr h)) (nog rfl _) rfl (by kernel_rfl) ((by obtain ⟨Z9, bd, aU, aV⟩ := i.lend 0 rfl; exact bstr_op O (g := []) (e := 5) (ao := k) (cap := l) (xs := h) rfl (by kernel_rfl) (by kernel_rfl) (by kernel_rfl) (by kernel_rfl)  aV aU rfl)) ?_; intro be ax; clear O
 refine s1 ax 4 (str (bstr h)) ?_; intro bf aW; clear ax
 refine nlH (aw _ _ ?_); clear aw aT
 refine wp_ret ?_
 refine ra1 aW (str (bstr h)) ?_
 exact ⟨(bstr h, d), v, y, D, rfl, aS, j, o, i.keep (List.Sublist.cons _ (List.Sublist.cons_cons _ (List.Sublist.refl _)))⟩

theorem sput_walk (u0 : List UInt8)  (Z : Fz) (w : World)  (hZ : Z.on w) {K : ((List UInt8) × Int) → Prop} (hp : sput_vc u0 K) : Calls Tryz.prog 54 #[str u0] w fun e w' => ∃ r : (List UInt8) × Int, e = .returned (.tuple #[str r.1, i6 r.2]) ∧ K r ∧ Below w.heap.size w w' := by
 refine enter0 Tryz.func54 rfl rfl (by kernel_rfl) ?_; intro a0 Y; have E := Mem.start w Z hZ; have j := Fz.le.refl Z
 refine sqB Y E [] [] [] ?_; intro a4 aa; clear Y
 refine wp_seq ?_
 refine sqH ?_; intro a8 ab
 refine s1 aa 10 (str u0) ?_; intro a7 ac; clear aa
 refine fc ac E (bcheck_fun u0 _ _ E.fz) ?_; intro a9 bV ad o; clear ac E
 refine s1 ad 4 (i6 (bcheckS u0)) ?_; intro bW ae; clear ad
 refine nlH (ab _ _ ?_); clear ab a8
 refine sqB ae o [] [] [(13, .bool ((bcheckS u0) != 0))] ?_; intro bX A; clear ae
 refine cd A (t := (bcheckS u0) != 0) (by kernel_rfl) (fun L => ?_) (fun L => ?_)
 ·
  have ba := hp.1 L; clear hp
  refine sqB A o [] [] [(2, str []), (3, i6 (bcheckS u0))] ?_; intro bY bb; clear A
  refine wp_ret ?_
  refine thr ?_
  refine ra2 bb (.tuple #[str [], i6 (bcheckS u0)]) ?_
  exact ⟨([], (bcheckS u0)), rfl, ba, o.below⟩
 have bc := hp.2 L; clear hp
 refine wp_skip ?_
 refine thn ?_
 refine sqB A o [] [] [(5, .slice none 0 0)] ?_; intro bZ af; clear A
 refine sqH ?_; intro bd ag
 refine nw af o pb [y8 0, i6 0] 57 ?_; intro f b0 be ah M; clear af o
 refine nlH (ag _ _ ?_); clear ag bd
 refine wp_seq ?_
 refine sqB ah M [] [] [(16, i6 (u0.length : Int)), (17, i6 0)] ?_; intro ai aj; clear ah
 refine wp_block ?_
 have ak : Fr 43 [] [⟨0, [], str u0⟩, ⟨5, [], .slice none 0 0⟩, ⟨6, [], pt f 0⟩, ⟨16, [], i6 (u0.length : Int)⟩, ⟨17, [], i6 0⟩] ai := aj.reg; clear aj
 have al : Mem w.heap.size [] w Z [.own t8 5 none 0 ([] : List Int), .row f [y8 0, i6 0] 57] Z be := M.addNil t8 5 (by decide); clear M
 have am : Fr 43 [] [⟨0, [], str u0⟩, ⟨5, [], .slice none ([] : List Int).length 0⟩, ⟨6, [], pt f 0⟩, ⟨16, [], i6 (u0.length : Int)⟩, ⟨17, [], i6 0⟩] ai := ak.reg; clear ak
 obtain ⟨bf, bg, bh, bi⟩ := bc
 have b1 := j
 refine lp (ι := (List Int) × Int × Counter × (Option Addr) × Nat × Fz) (fun s => [⟨0, [], str u0⟩, ⟨5, [], .slice s.2.2.2.1 s.1.length s.2.2.2.2.1⟩, ⟨6, [], pt f 0⟩, ⟨16, [], i6 (u0.length : Int)⟩, ⟨17, [], i6 s.2.1⟩]) (fun s => [.own t8 5 s.2.2.2.1 s.2.2.2.2.1 s.1, .row f [y8 s.2.2.1.last, i6 s.2.2.1.n] 57]) (fun s => s.2.2.2.2.2) (fun s => bf s.1 s.2.1 s.2.2.1 ∧ Fz.le Z s.2.2.2.2.2) (fun s => bg s.1 s.2.1 s.2.2.1) ⟨([] : List Int), 0, (⟨0, 0⟩ : Counter), none, 0, Z⟩ ⟨bh, Fz.le.refl _⟩ (by exact am.reg) (by exact al) ?_
 rintro ⟨c, h, p, u, v, an⟩ ⟨bj, k⟩ bk bl aq ar
 have au : Fr 43 [] [⟨0, [], str u0⟩, ⟨5, [], .slice u c.length v⟩, ⟨6, [], pt f 0⟩, ⟨16, [], i6 (u0.length : Int)⟩, ⟨17, [], i6 h⟩] bk := aq; clear aq am
 have i : Mem w.heap.size [] w Z [.own t8 5 u v c, .row f [y8 p.last, i6 p.n] 57] an bl := ar; clear ar al
 have F := bi c h p bj
 replace j := Fz.le.trans j k
 refine sqB au i [] [] [(18, .bool (decide (h < (u0.length : Int))))] ?_; intro b2 B; clear au
 refine wp_seq ?_
 refine cd B (t := decide (h < (u0.length : Int))) (by kernel_rfl) (fun N => ?_) (fun N => ?_)
 ·
  have bm := F.1 N; clear F
  refine wp_skip ?_
  refine thn ?_
  refine wp_seq ?_
  refine wp_block ?_
  refine sqB B i [] [] [(7, i6 h)] ?_; intro b3 av; clear B
  refine sqH ?_; intro bn aw
  refine bt av i 3 [] [] [(20, .slice u c.length v), (21, str u0), (22, i6 h)] ?_; intro b4 ax; clear av
  obtain ⟨bo, bp⟩ := bm
  obtain ⟨d, ay⟩ : ∃ q, u0[h.toNat]? = some q := ⟨_, List.getElem?_eq_getElem (by omega)⟩; have bq := bp d ay
  refine si ax .i64 bo.1 ay ?_; intro b5 az; clear ax
  refine nw az i (fun b => .slice (sm b) 1 1) [y8 (d.toNat : Int)] 5 ?_; intro C b6 b7 aA O; clear az i
  obtain ⟨br, bs⟩ := bq
  refine ap aA O 1 (T := t8) (xs := c) (ys := [(d.toNat : Int)]) (ao := u) (cap := v) (ao2 := (sm C)) (cap2 := 1) (t := 22) (e := 5) (bytes := 1) (nog rfl _) rfl (by kernel_rfl) rfl (by kernel_rfl) (by kernel_rfl) (by kernel_rfl) rfl (Src.row O 0 rfl (RepAll.one (T := t8) (x := (d.toNat : Int)) rfl)) br ?_; intro y z b8 bu b9 aB aC; clear aA O
  have G : Mem w.heap.size [] w Z [.row C [y8 (d.toNat : Int)] 5, .own t8 5 y z (c ++ [(d.toNat : Int)]), .row f [y8 p.last, i6 p.n] 57] an bu := aC; clear aC
  refine s1 aB 5 (.slice y (c ++ [(d.toNat : Int)]).length z) ?_; intro ca aD; clear aB
  refine nlH (aw _ _ ?_); clear aw bn
  refine sqH ?_; intro bv aE
  refine bt aD G 2 [] [] [(27, str u0), (28, i6 h)] ?_; intro cb aF; clear aD
  obtain ⟨bw, bx⟩ := bs
  obtain ⟨P, aG⟩ : ∃ q, u0[h.toNat]? = some q := ⟨_, List.getElem?_eq_getElem (by omega)⟩; have bz := bx P aG
  refine si aF .i64 bw.1 aG ?_; intro cc aH; clear aF
  obtain ⟨bA, aI⟩ := bz
  refine ck aH 69 #[pt f 0, y8 (P.toNat : Int)] ?_
  obtain ⟨a, bB, H⟩ := hxq aI; clear aI
  have l := cnext_fun p (P.toNat : Int) bA f _ _ _ _ _ _ (G.perm (pk 2 rfl)) G.fz; rw [bB] at l; refine l.mono ?_; clear l; rintro _ bC ⟨Q, rfl, aJ, hm⟩; refine ⟨_, rfl, ?_⟩; intro ce aK; have aL := hm; clear hm G aH
  replace k := k.mono aJ
  replace j := Fz.le.trans j aJ
  have m : Mem w.heap.size [] w Z [.row f [y8 a.2.2.last, i6 a.2.2.n] 57, .row C [y8 (d.toNat : Int)] 5, .own t8 5 y z (c ++ [(d.toNat : Int)])] Q bC := aL; clear aL
  refine bt aK m 5 [] [] [(8, y8 a.1), (9, .bool a.2.1)] ?_; intro cf aM; clear aK
  refine nlH (aE _ _ ?_); clear aE bv
  refine sqB aM m [] [] [(33, .bool a.2.1)] ?_; intro cg D; clear aM
  refine cd D (t := a.2.1) (by kernel_rfl) (fun R => ?_) (fun R => ?_)
  ·
   have bD := H.1 R; clear H
   refine sqH ?_; intro bE aN
   refine bt D m 2 [] [] [(34, .slice y (c ++ [(d.toNat : Int)]).length z), (35, y8 a.1)] ?_; intro ch aO; clear D
   refine nw aO m (fun b => .slice (sm b) 1 1) [y8 a.1] 5 ?_; intro S ci cj aP U; clear aO m
   obtain ⟨bF, bG⟩ := bD
   refine ap aP U 3 (T := t8) (xs := c ++ [(d.toNat : Int)]) (ys := [a.1]) (ao := y) (cap := z) (ao2 := (sm S)) (cap2 := 1) (t := 22) (e := 5) (bytes := 1) (nog rfl _) rfl (by kernel_rfl) rfl (by kernel_rfl) (by kernel_rfl) (by kernel_rfl) rfl (Src.row U 0 rfl (RepAll.one (T := t8) (x := a.1) rfl)) bF ?_; intro I J cl bH cm aQ aR; clear aP U
   have V : Mem w.heap.size [] w Z [.row S [y8 a.1] 5, .row f [y8 a.2.2.last, i6 a.2.2.n] 57, .row C [y8 (d.toNat : Int)] 5, .own t8 5 I J ((c ++ [(d.toNat : Int)]) ++ [a.1])] Q bH := aR; clear aR
   refine s1 aQ 5 (.slice I ((c ++ [(d.toNat : Int)]) ++ [a.1]).length J) ?_; intro cn aS; clear aQ
   refine nlH (aN _ _ ?_); clear aN bE
   refine rgH ?_; intro bI aT
   refine s1 aS 38 (y8 a.1) ?_; intro co aU; clear aS
   obtain ⟨bJ, aV⟩ := bG
   refine ck aU 69 #[pt f 0, y8 a.1] ?_
   obtain ⟨W, bK, aW⟩ := hxq aV; clear aV
   have l := cnext_fun a.2.2 a.1 bJ f _ _ _ _ _ _ (V.perm (pk 1 rfl)) V.fz; rw [bK] at l; refine l.mono ?_; clear l; rintro _ bL ⟨aX, rfl, aY, hm⟩; refine ⟨_, rfl, ?_⟩; intro cp aZ; have a1 := hm; clear hm V aU
   replace k := k.mono aY
   replace j := Fz.le.trans j aY
   have a2 : Mem w.heap.size [] w Z [.row f [y8 W.2.2.last, i6 W.2.2.n] 57, .row S [y8 a.1] 5, .row C [y8 (d.toNat : Int)] 5, .own t8 5 I J ((c ++ [(d.toNat : Int)]) ++ [a.1])] aX bL := a1; clear a1
   refine nlH (aT _ _ ?_); clear aT bI
   refine ibn ?_
   refine thn ?_
   refine rgB aZ a2 [] [] [(17, i6 (w64 (h + 1)))] ?_; intro cq bM; clear aZ
   refine rd ?_
   have bN := a2.perm ((pk 3 rfl).trans (lpr.cons _))
   exact ⟨⟨(c ++ [(d.toNat : Int)]) ++ [a.1], w64 (h + 1), W.2.2, I, J, aX⟩, ⟨aW.1, k⟩, aW.2, (bM.reg).anyβ _ (by kernel_rfl), bN.keep (List.Sublist.cons_cons _ (List.Sublist.cons_cons _ (List.Sublist.cons _ (List.Sublist.cons _ (List.Sublist.slnil)))))⟩
  have a3 := H.2 R; clear H
  refine wp_skip ?_
  refine ibn ?_
  refine thn ?_
  refine rgB D m [] [] [(17, i6 (w64 (h + 1)))] ?_; intro cr bO; clear D
  refine rd ?_
  have bP := m.perm ((pk 2 rfl).trans (lpr.cons _))
  exact ⟨⟨c ++ [(d.toNat : Int)], w64 (h + 1), a.2.2, y, z, Q⟩, ⟨a3.1, k⟩, a3.2, (bO.reg).anyβ _ (by kernel_rfl), bP.keep (List.Sublist.cons_cons _ (List.Sublist.cons_cons _ (List.Sublist.cons _ (List.Sublist.slnil))))⟩
 have bQ := F.2 N; clear F
 refine wp_exit ?_
 refine thx ?_
 refine thx ?_
 refine ibx ?_
 refine thn ?_
 refine sqH ?_; intro bR a5
 refine s1 B 41 (.slice u c.length v) ?_; intro cs X; clear B
 refine st X (str (bstr c)) (nog rfl _) rfl (by kernel_rfl) ((by obtain ⟨Z9, ct, bS, bT⟩ := i.lend 0 rfl; exact bstr_op X (g := []) (e := 5) (ao := u) (cap := v) (xs := c) rfl (by kernel_rfl) (by kernel_rfl) (by kernel_rfl) (by kernel_rfl)  bT bS rfl)) ?_; intro cu a6; clear X
 refine bt a6 i 2 [] [] [(2, str (bstr c)), (3, i6 0)] ?_; intro cv bU; clear a6
 refine nlH (a5 _ _ ?_); clear a5 bR
 refine wp_ret ?_
 refine ra2 bU (.tuple #[str (bstr c), i6 0]) ?_
 exact ⟨(bstr c, 0), rfl, bQ, i.below⟩

theorem sfixed_walk (u0 : List UInt8) (u1 : Int)  (Z : Fz) (w : World)  (hZ : Z.on w) {K : ((List UInt8) × Int) → Prop} (hp : sfixed_vc u0 u1 K) : Calls Tryz.prog 57 #[str u0, y8 u1] w fun e w' => ∃ r : (List UInt8) × Int, e = .returned (.tuple #[str r.1, i6 r.2]) ∧ K r ∧ Below w.heap.size w w' := by
 refine enter0 Tryz.func57 rfl rfl (by kernel_rfl) ?_; intro a0 W; have u := Mem.start w Z hZ; have bV := Fz.le.refl Z
 refine sqB W u [] [] [] ?_; intro a4 X; clear W
 refine wp_seq ?_
 refine sqH ?_; intro a6 Y
 refine s1 X 10 (str u0) ?_; intro a7 aa; clear X
 refine fc aa u (bcheck_fun u0 _ _ u.fz) ?_; intro a9 a8 ab h; clear aa u
 refine s1 ab 6 (i6 (bcheckS u0)) ?_; intro bW ac; clear ab
 refine nlH (Y _ _ ?_); clear Y a6
 refine sqB ac h [] [] [(13, .bool ((bcheckS u0) != 0))] ?_; intro bX m; clear ac
 refine cd m (t := (bcheckS u0) != 0) (by kernel_rfl) (fun C => ?_) (fun C => ?_)
 ·
  have ba := hp.1 C; clear hp
  refine sqB m h [] [] [(4, str []), (5, i6 (bcheckS u0))] ?_; intro bY bb; clear m
  refine wp_ret ?_
  refine thr ?_
  refine ra2 bb (.tuple #[str [], i6 (bcheckS u0)]) ?_
  exact ⟨([], (bcheckS u0)), rfl, ba, h.below⟩
 have v := hp.2 C; clear hp
 refine wp_skip ?_
 refine thn ?_
 refine wp_seq ?_
 refine sqB m h [] [] [(20, .bool ((u1 != 48) && (u1 != 49)))] ?_; intro bZ n; clear m
 refine cd n (t := (u1 != 48) && (u1 != 49)) (by kernel_rfl) (fun D => ?_) (fun D => ?_)
 ·
  have bc := v.1 D; clear v
  refine sqB n h [] [] [(4, str []), (5, i6 3)] ?_; intro b0 bd; clear n
  refine wp_ret ?_
  refine thr ?_
  refine ra2 bd (.tuple #[str [], i6 3]) ?_
  exact ⟨([], 3), rfl, bc, h.below⟩
 have be := v.2 D; clear v
 refine wp_skip ?_
 refine thn ?_
 refine sqB n h [] [] [(7, .slice none 0 0)] ?_; intro b1 ad; clear n
 refine sqB ad h [] [] [(8, y8 u1)] ?_; intro b2 ae; clear ad
 refine wp_seq ?_
 refine sqB ae h [] [] [(23, i6 (u0.length : Int)), (24, i6 0)] ?_; intro af ag; clear ae
 refine wp_block ?_
 have ah : Fr 47 [] [⟨0, [], str u0⟩, ⟨7, [], .slice none 0 0⟩, ⟨8, [], y8 u1⟩, ⟨23, [], i6 (u0.length : Int)⟩, ⟨24, [], i6 0⟩] af := ag.reg; clear ag
 have ai : Mem w.heap.size [] w Z [.own t8 5 none 0 ([] : List Int)] Z a8 := h.addNil t8 5 (by decide); clear h
 have aj : Fr 47 [] [⟨0, [], str u0⟩, ⟨7, [], .slice none ([] : List Int).length 0⟩, ⟨8, [], y8 u1⟩, ⟨23, [], i6 (u0.length : Int)⟩, ⟨24, [], i6 0⟩] af := ah.reg; clear ah
 obtain ⟨bf, bg, bh, bi⟩ := be
 refine lp (ι := (List Int) × Int × Int × (Option Addr) × Nat) (fun s => [⟨0, [], str u0⟩, ⟨7, [], .slice s.2.2.2.1 s.1.length s.2.2.2.2⟩, ⟨8, [], y8 s.2.1⟩, ⟨23, [], i6 (u0.length : Int)⟩, ⟨24, [], i6 s.2.2.1⟩]) (fun s => [.own t8 5 s.2.2.2.1 s.2.2.2.2 s.1]) (fun s => Z) (fun s => bf s.1 s.2.1 s.2.2.1) (fun s => bg s.1 s.2.1 s.2.2.1) ⟨([] : List Int), u1, 0, none, 0⟩ bh (by exact aj.reg) (by exact ai) ?_
 rintro ⟨a, d, c, i, j⟩ bj bk bl ak al
 have am : Fr 47 [] [⟨0, [], str u0⟩, ⟨7, [], .slice i a.length j⟩, ⟨8, [], y8 d⟩, ⟨23, [], i6 (u0.length : Int)⟩, ⟨24, [], i6 c⟩] bk := ak; clear ak aj
 have f : Mem w.heap.size [] w Z [.own t8 5 i j a] Z bl := al; clear al ai
 have y := bi a d c bj
 refine sqB am f [] [] [(25, .bool (decide (c < (u0.length : Int))))] ?_; intro b3 o; clear am
 refine wp_seq ?_
 refine cd o (t := decide (c < (u0.length : Int))) (by kernel_rfl) (fun E => ?_) (fun E => ?_)
 ·
  have z := y.1 E; clear y
  refine wp_skip ?_
  refine thn ?_
  refine wp_seq ?_
  refine wp_block ?_
  refine sqB o f [] [] [(9, i6 c)] ?_; intro b4 an; clear o
  refine wp_seq ?_
  refine sqB an f [] [] [(29, .bool ((c.tmod 4) == 0))] ?_; intro b5 p; clear an
  refine cd p (t := (c.tmod 4) == 0) (by kernel_rfl) (fun F => ?_) (fun F => ?_)
  ·
   have bm := z.1 F; clear z
   refine rgH ?_; intro bn aq
   refine bt p f 3 [] [] [(30, .slice i a.length j), (32, y8 (w8 (97 - d)))] ?_; intro b6 ar; clear p
   refine nw ar f (fun b => .slice (sm b) 1 1) [y8 (w8 (97 - d))] 5 ?_; intro G b7 b8 au H; clear ar f
   obtain ⟨bo, bp⟩ := bm
   refine ap au H 1 (T := t8) (xs := a) (ys := [w8 (97 - d)]) (ao := i) (cap := j) (ao2 := (sm G)) (cap2 := 1) (t := 22) (e := 5) (bytes := 1) (nog rfl _) rfl (by kernel_rfl) rfl (by kernel_rfl) (by kernel_rfl) (by kernel_rfl) rfl (Src.row H 0 rfl (RepAll.one (T := t8) (x := (w8 (97 - d))) rfl)) bo ?_; intro A B b9 bq ca av aw; clear au H
   have I : Mem w.heap.size [] w Z [.row G [y8 (w8 (97 - d))] 5, .own t8 5 A B (a ++ [w8 (97 - d)])] Z bq := aw; clear aw
   refine s1 av 7 (.slice A (a ++ [w8 (97 - d)]).length B) ?_; intro cb ax; clear av
   refine nlH (aq _ _ ?_); clear aq bn
   refine thn ?_
   refine sqH ?_; intro br ay
   refine bt ax I 3 [] [] [(35, .slice A (a ++ [w8 (97 - d)]).length B), (36, str u0), (37, i6 c)] ?_; intro cc az; clear ax
   obtain ⟨bs, bu⟩ := bp
   obtain ⟨k, aA⟩ : ∃ q, u0[c.toNat]? = some q := ⟨_, List.getElem?_eq_getElem (by omega)⟩; have bv := bu k aA
   refine si az .i64 bs.1 aA ?_; intro ce aB; clear az
   refine nw aB I (fun b => .slice (sm b) 1 1) [y8 (k.toNat : Int)] 5 ?_; intro aC cf cg aD J; clear aB I
   obtain ⟨bw, bx⟩ := bv
   refine ap aD J 2 (T := t8) (xs := a ++ [w8 (97 - d)]) (ys := [(k.toNat : Int)]) (ao := A) (cap := B) (ao2 := (sm aC)) (cap2 := 1) (t := 22) (e := 5) (bytes := 1) (nog rfl _) rfl (by kernel_rfl) rfl (by kernel_rfl) (by kernel_rfl) (by kernel_rfl) rfl (Src.row J 0 rfl (RepAll.one (T := t8) (x := (k.toNat : Int)) rfl)) bw ?_; intro L M ch bz ci aE aF; clear aD J
   have N : Mem w.heap.size [] w Z [.row aC [y8 (k.toNat : Int)] 5, .row G [y8 (w8 (97 - d))] 5, .own t8 5 L M ((a ++ [w8 (97 - d)]) ++ [(k.toNat : Int)])] Z bz := aF; clear aF
   refine s1 aE 7 (.slice L ((a ++ [w8 (97 - d)]) ++ [(k.toNat : Int)]).length M) ?_; intro cj aG; clear aE
   refine nlH (ay _ _ ?_); clear ay br
   refine rgH ?_; intro bA aH
   refine bt aG N 2 [] [] [(41, str u0), (42, i6 c)] ?_; intro ck aI; clear aG
   obtain ⟨bB, bC⟩ := bx
   obtain ⟨O, aJ⟩ : ∃ q, u0[c.toNat]? = some q := ⟨_, List.getElem?_eq_getElem (by omega)⟩; have aK := bC O aJ
   refine si aI .i64 bB.1 aJ ?_; intro cl aL; clear aI
   refine s1 aL 8 (y8 (O.toNat : Int)) ?_; intro cm aM; clear aL
   refine nlH (aH _ _ ?_); clear aH bA
   refine ibn ?_
   refine thn ?_
   refine rgB aM N [] [] [(24, i6 (w64 (c + 1)))] ?_; intro cn bD; clear aM
   refine rd ?_
   exact ⟨⟨(a ++ [w8 (97 - d)]) ++ [(k.toNat : Int)], (O.toNat : Int), w64 (c + 1), L, M⟩, aK.1, aK.2, (bD.reg).anyβ _ (by kernel_rfl), N.keep (List.Sublist.cons _ (List.Sublist.cons _ (List.Sublist.cons_cons _ (List.Sublist.slnil))))⟩
  have bE := z.2 F; clear z
  refine wp_skip ?_
  refine thn ?_
  refine sqH ?_; intro bF aN
  refine bt p f 3 [] [] [(35, .slice i a.length j), (36, str u0), (37, i6 c)] ?_; intro co aO; clear p
  obtain ⟨bG, bH⟩ := bE
  obtain ⟨l, aP⟩ : ∃ q, u0[c.toNat]? = some q := ⟨_, List.getElem?_eq_getElem (by omega)⟩; have bI := bH l aP
  refine si aO .i64 bG.1 aP ?_; intro cp aQ; clear aO
  refine nw aQ f (fun b => .slice (sm b) 1 1) [y8 (l.toNat : Int)] 5 ?_; intro aR cq cr aS P; clear aQ f
  obtain ⟨bJ, bK⟩ := bI
  refine ap aS P 1 (T := t8) (xs := a) (ys := [(l.toNat : Int)]) (ao := i) (cap := j) (ao2 := (sm aR)) (cap2 := 1) (t := 22) (e := 5) (bytes := 1) (nog rfl _) rfl (by kernel_rfl) rfl (by kernel_rfl) (by kernel_rfl) (by kernel_rfl) rfl (Src.row P 0 rfl (RepAll.one (T := t8) (x := (l.toNat : Int)) rfl)) bJ ?_; intro Q R cs bL ct aT aU; clear aS P
  have S : Mem w.heap.size [] w Z [.row aR [y8 (l.toNat : Int)] 5, .own t8 5 Q R (a ++ [(l.toNat : Int)])] Z bL := aU; clear aU
  refine s1 aT 7 (.slice Q (a ++ [(l.toNat : Int)]).length R) ?_; intro cu aV; clear aT
  refine nlH (aN _ _ ?_); clear aN bF
  refine rgH ?_; intro bM aW
  refine bt aV S 2 [] [] [(41, str u0), (42, i6 c)] ?_; intro cv aX; clear aV
  obtain ⟨bN, bO⟩ := bK
  obtain ⟨U, aY⟩ : ∃ q, u0[c.toNat]? = some q := ⟨_, List.getElem?_eq_getElem (by omega)⟩; have aZ := bO U aY
  refine si aX .i64 bN.1 aY ?_; intro cw a1; clear aX
  refine s1 a1 8 (y8 (U.toNat : Int)) ?_; intro cx a2; clear a1
  refine nlH (aW _ _ ?_); clear aW bM
  refine ibn ?_
  refine thn ?_
  refine rgB a2 S [] [] [(24, i6 (w64 (c + 1)))] ?_; intro cy bP; clear a2
  refine rd ?_
  exact ⟨⟨a ++ [(l.toNat : Int)], (U.toNat : Int), w64 (c + 1), Q, R⟩, aZ.1, aZ.2, (bP.reg).anyβ _ (by kernel_rfl), S.keep (List.Sublist.cons _ (List.Sublist.cons_cons _ (List.Sublist.slnil)))⟩
 have bQ := y.2 E; clear y
 refine wp_exit ?_
 refine thx ?_
 refine thx ?_
 refine ibx ?_
 refine thn ?_
 refine sqH ?_; intro bR a3
 refine s1 o 45 (.slice i a.length j) ?_; intro cz V; clear o
 refine st V (str (bstr a)) (nog rfl _) rfl (by kernel_rfl) ((by obtain ⟨Z9, cA, bS, bT⟩ := f.lend 0 rfl; exact bstr_op V (g := []) (e := 5) (ao := i) (cap := j) (xs := a) rfl (by kernel_rfl) (by kernel_rfl) (by kernel_rfl) (by kernel_rfl)  bT bS rfl)) ?_; intro cB a5; clear V
 refine bt a5 f 2 [] [] [(4, str (bstr a)), (5, i6 0)] ?_; intro cC bU; clear a5
 refine nlH (a3 _ _ ?_); clear a3 bR
 refine wp_ret ?_
 refine ra2 bU (.tuple #[str (bstr a), i6 0]) ?_
 exact ⟨(bstr a, 0), rfl, bQ, f.below⟩

theorem bbytes_walk (u0 : List UInt8)  (Z : Fz) (w : World)  (hZ : Z.on w) {K : ((List Int) × Int) → Prop} (hp : bbytes_vc u0 K) : Calls Tryz.prog 37 #[str u0] w fun e w' => ∃ (r : (List Int) × Int) (ao1001 : Option Addr) (cap1002 : Nat) (Z' : Fz), e = .returned (.tuple #[.slice ao1001 r.1.length cap1002, i6 r.2]) ∧ K r ∧ Mem w.heap.size [] w Z [.own t8 5 ao1001 cap1002 r.1] Z' w' := by
 refine enter0 Tryz.func37 rfl rfl (by kernel_rfl) ?_; intro a0 E; have n := Mem.start w Z hZ; have aQ := Fz.le.refl Z
 refine sqB E n [] [] [] ?_; intro a4 F; clear E
 refine wp_seq ?_
 refine sqH ?_; intro ai G
 refine s1 F 6 (str u0) ?_; intro a7 H; clear F
 refine fc H n (bcheck_fun u0 _ _ n.fz) ?_; intro a9 q I c; clear H n
 refine s1 I 4 (i6 (bcheckS u0)) ?_; intro aR J; clear I
 refine nlH (G _ _ ?_); clear G ai
 refine sqB J c [] [] [(9, .bool ((bcheckS u0) != 0))] ?_; intro aS j; clear J
 refine cd j (t := (bcheckS u0) != 0) (by kernel_rfl) (fun u => ?_) (fun u => ?_)
 ·
  have aj := hp.1 u; clear hp
  refine sqB j c [] [] [(2, .slice none 0 0), (3, i6 (bcheckS u0))] ?_; intro aT ak; clear j
  refine wp_ret ?_
  refine thr ?_
  have al : Mem w.heap.size [] w Z [.own t8 5 none 0 ([] : List Int)] Z q := c.addNil t8 5 (by decide); clear c
  refine ra2 ak (.tuple #[.slice none ([] : List Int).length 0, i6 (bcheckS u0)]) ?_
  exact ⟨(([] : List Int), (bcheckS u0)), none, 0, Z, rfl, aj, al.keep (List.Sublist.cons_cons _ (List.Sublist.slnil))⟩
 have o := hp.2 u; clear hp
 refine wp_skip ?_
 refine thn ?_
 refine wp_seq ?_
 refine sqB j c [] [] [(14, .bool (((u0.length : Int).tmod 8) != 0))] ?_; intro aU l; clear j
 refine cd l (t := ((u0.length : Int).tmod 8) != 0) (by kernel_rfl) (fun v => ?_) (fun v => ?_)
 ·
  have am := o.1 v; clear o
  refine sqB l c [] [] [(2, .slice none 0 0), (3, i6 4)] ?_; intro aV an; clear l
  refine wp_ret ?_
  refine thr ?_
  have aq : Mem w.heap.size [] w Z [.own t8 5 none 0 ([] : List Int)] Z q := c.addNil t8 5 (by decide); clear c
  refine ra2 an (.tuple #[.slice none ([] : List Int).length 0, i6 4]) ?_
  exact ⟨(([] : List Int), 4), none, 0, Z, rfl, am, aq.keep (List.Sublist.cons_cons _ (List.Sublist.slnil))⟩
 have ar := o.2 v; clear o
 refine wp_skip ?_
 refine thn ?_
 refine sqB l c [] [] [(5, .slice none 0 0)] ?_; intro L M; clear l
 refine wp_seq ?_
 refine wp_block ?_
 have N : Fr 28 [] [⟨0, [], str u0⟩, ⟨5, [], .slice none 0 0⟩] L := M.reg; clear M
 have O : Mem w.heap.size [] w Z [.own t8 5 none 0 ([] : List Int)] Z q := c.addNil t8 5 (by decide); clear c
 have P : Fr 28 [] [⟨0, [], str u0⟩, ⟨5, [], .slice none ([] : List Int).length 0⟩] L := N.reg; clear N
 obtain ⟨au, av, aw, ax⟩ := ar
 refine lp (ι := (List UInt8) × (List Int) × (Option Addr) × Nat) (fun s => [⟨0, [], str s.1⟩, ⟨5, [], .slice s.2.2.1 s.2.1.length s.2.2.2⟩]) (fun s => [.own t8 5 s.2.2.1 s.2.2.2 s.2.1]) (fun s => Z) (fun s => au s.1 s.2.1) (fun s => av s.1 s.2.1) ⟨u0, ([] : List Int), none, 0⟩ aw (by exact P.reg) (by exact O) ?_
 rintro ⟨a, d, f, h⟩ ay az aA Q R
 have S : Fr 28 [] [⟨0, [], str a⟩, ⟨5, [], .slice f d.length h⟩] az := Q; clear Q P
 have i : Mem w.heap.size [] w Z [.own t8 5 f h d] Z aA := R; clear R O
 have p := ax a d ay
 refine wp_seq ?_
 refine sqB S i [] [] [(17, .bool (decide ((a.length : Int) > 0)))] ?_; intro aW m; clear S
 refine cd m (t := decide ((a.length : Int) > 0)) (by kernel_rfl) (fun y => ?_) (fun y => ?_)
 ·
  have aB := p.1 y; clear p
  refine wp_skip ?_
  refine thn ?_
  refine wp_block ?_
  refine sqH ?_; intro aC U
  refine bt m i 2 [] [] [(18, .slice f d.length h), (19, str a)] ?_; intro aX z; clear m
  obtain ⟨aD, aE⟩ := aB
  refine st z (str (a.take (8 : Int).toNat)) (nog rfl _) rfl (by kernel_rfl) (strslH_run z (g := []) (k := .i64) rfl (by kernel_rfl) (by kernel_rfl) (by kernel_rfl) aD rfl) ?_; intro aY V; clear z
  obtain ⟨aF, aG⟩ := aE
  refine fc V i (bread_fun (a.take (8 : Int).toNat) aF _ _ i.fz) ?_; intro aZ a1 W X; clear V i
  refine s1 W 22 (y8 (w8 (breadS (a.take (8 : Int).toNat)))) ?_; intro a2 Y; clear W
  refine nw Y X (fun b => .slice (sm b) 1 1) [y8 (w8 (breadS (a.take (8 : Int).toNat)))] 5 ?_; intro aa a3 a5 ab A; clear Y X
  obtain ⟨aH, aI⟩ := aG
  refine ap ab A 1 (T := t8) (xs := d) (ys := [w8 (breadS (a.take (8 : Int).toNat))]) (ao := f) (cap := h) (ao2 := (sm aa)) (cap2 := 1) (t := 22) (e := 5) (bytes := 1) (nog rfl _) rfl (by kernel_rfl) rfl (by kernel_rfl) (by kernel_rfl) (by kernel_rfl) rfl (Src.row A 0 rfl (RepAll.one (T := t8) (x := (w8 (breadS (a.take (8 : Int).toNat)))) rfl)) aH ?_; intro B C a6 aJ a8 ac ad; clear ab A
  have aK : Mem w.heap.size [] w Z [.row aa [y8 (w8 (breadS (a.take (8 : Int).toNat)))] 5, .own t8 5 B C (d ++ [w8 (breadS (a.take (8 : Int).toNat))])] Z aJ := ad; clear ad
  refine s1 ac 5 (.slice B (d ++ [w8 (breadS (a.take (8 : Int).toNat))]).length C) ?_; intro ba ae; clear ac
  refine nlH (U _ _ ?_); clear U aC
  refine rgH ?_; intro aL af
  refine s1 ae 25 (str a) ?_; intro bb D; clear ae
  obtain ⟨aM, ag⟩ := aI
  refine st D (str (a.drop (8 : Int).toNat)) (nog rfl _) rfl (by kernel_rfl) (strslL_run D (g := []) (k := .i64) rfl (by kernel_rfl) (by kernel_rfl) (by kernel_rfl) aM rfl) ?_; intro bc ah; clear D
  refine s1 ah 0 (str (a.drop (8 : Int).toNat)) ?_; intro bd aN; clear ah
  refine nlH (af _ _ ?_); clear af aL
  refine ibn ?_
  refine rd ?_
  exact ⟨⟨a.drop (8 : Int).toNat, d ++ [w8 (breadS (a.take (8 : Int).toNat))], B, C⟩, ag.1, ag.2, (aN.reg).anyβ _ (by kernel_rfl), aK.keep (List.Sublist.cons _ (List.Sublist.cons_cons _ (List.Sublist.slnil)))⟩
 have aO := p.2 y; clear p
 refine wp_exit ?_
 refine thx ?_
 refine thx ?_
 refine ibx ?_
 refine thn ?_
 refine sqB m i [] [] [(2, .slice f d.length h), (3, i6 0)] ?_; intro be aP; clear m
 refine wp_ret ?_
 refine ra2 aP (.tuple #[.slice f d.length h, i6 0]) ?_
 exact ⟨(d, 0), f, h, Z, rfl, aO, i.keep (List.Sublist.cons_cons _ (List.Sublist.slnil))⟩

theorem beq_walk (u0 : List Int) (u1 : List Int) (ao1 : Option Addr) (cap2 : Nat) (ao4 : Option Addr) (cap5 : Nat) (Z : Fz) (w : World) (hs3 : SlR t8 Z ao1 cap2 u0) (hs6 : SlR t8 Z ao4 cap5 u1) (hZ : Z.on w) {K : Bool → Prop} (hp : beq_vc u0 u1 K) : Calls Tryz.prog 52 #[.slice ao1 u0.length cap2, .slice ao4 u1.length cap5] w fun e w' => ∃ r : Bool, e = .returned (.bool r) ∧ K r ∧ Below w.heap.size w w' := by
 refine enter0 Tryz.func52 rfl rfl (by kernel_rfl) ?_; intro a0 y; have b := Mem.start w Z hZ; have aC := Fz.le.refl Z
 have z := hp (hs3.small); clear hp
 have l := z (hs6.small); clear z
 refine sqB y b [] [] [] ?_; intro aD A; clear y
 refine wp_seq ?_
 refine sqB A b [] [] [(10, .bool ((u0.length : Int) != (u1.length : Int)))] ?_; intro aE d; clear A
 refine cd d (t := (u0.length : Int) != (u1.length : Int)) (by kernel_rfl) (fun p => ?_) (fun p => ?_)
 ·
  have W := l.1 p; clear l
  refine sqB d b [] [] [(4, .bool false)] ?_; intro aF X; clear d
  refine wp_ret ?_
  refine thr ?_
  refine ra1 X (.bool false) ?_
  exact ⟨false, rfl, W, b.below⟩
 have Y := l.2 p; clear l
 refine wp_skip ?_
 refine thn ?_
 refine wp_seq ?_
 refine sqB d b [] [] [(12, i6 (u0.length : Int)), (13, i6 0)] ?_; intro B C; clear d
 refine wp_block ?_
 have D : Fr 26 [] [⟨0, [], .slice ao1 u0.length cap2⟩, ⟨1, [], .slice ao4 u1.length cap5⟩, ⟨12, [], i6 (u0.length : Int)⟩, ⟨13, [], i6 0⟩] B := C.reg; clear C
 have E : Fr 26 [] [⟨0, [], .slice ao1 u0.length cap2⟩, ⟨1, [], .slice ao4 u1.length cap5⟩, ⟨12, [], i6 (u0.length : Int)⟩, ⟨13, [], i6 0⟩] B := D.reg; clear D
 obtain ⟨aa, ab, ac, ad⟩ := Y
 refine lp (ι := Int) (fun s => [⟨0, [], .slice ao1 u0.length cap2⟩, ⟨1, [], .slice ao4 u1.length cap5⟩, ⟨12, [], i6 (u0.length : Int)⟩, ⟨13, [], i6 s⟩]) (fun s => []) (fun s => Z) (fun s => aa s) (fun s => ab s) 0 ac (by exact E.reg) (by exact b) ?_
 rintro a ae af ag F G
 have H : Fr 26 [] [⟨0, [], .slice ao1 u0.length cap2⟩, ⟨1, [], .slice ao4 u1.length cap5⟩, ⟨12, [], i6 (u0.length : Int)⟩, ⟨13, [], i6 a⟩] af := F; clear F E
 have c : Mem w.heap.size [] w Z [] Z ag := G; clear G b
 have m := ad a ae
 refine sqB H c [] [] [(14, .bool (decide (a < (u0.length : Int))))] ?_; intro aG f; clear H
 refine wp_seq ?_
 refine cd f (t := decide (a < (u0.length : Int))) (by kernel_rfl) (fun q => ?_) (fun q => ?_)
 ·
  have ah := m.1 q; clear m
  refine wp_skip ?_
  refine thn ?_
  refine wp_seq ?_
  refine wp_block ?_
  refine sqB f c [] [] [(5, i6 a)] ?_; intro ai I; clear f
  have J : Fr 26 [] [⟨0, [], .slice ao1 u0.length cap2⟩, ⟨1, [], .slice ao4 u1.length cap5⟩, ⟨5, [], i6 a⟩, ⟨12, [], i6 (u0.length : Int)⟩, ⟨13, [], i6 a⟩] ai := I.reg; clear I
  refine sqQH mixed (by kernel_rfl) c ?_; intro aj L
  refine q1 J 16 (.slice ao1 u0.length cap2) ?_; intro aH M; clear J
  refine q1 M 17 (i6 a) ?_; intro aI N; clear M
  obtain ⟨ak, O⟩ := ah
  refine qix N (T := t8) (xs := u0) hs3 a ak (k := .i64) (e := 5) (bytes := 1) (nog rfl _) rfl (by kernel_rfl) rfl (by kernel_rfl) (by kernel_rfl) (by kernel_rfl) ?_; intro aJ aK al h aL am an ao u; clear N
  have ap := O h am; clear O
  obtain rfl : al = ([y8 h] : List Value) := ao
  refine qst u (y8 h) (nog rfl _) rfl (by kernel_rfl) (fun v81 hC => lz u hC.fz an 0 (g := []) rfl (by kernel_rfl) (by kernel_rfl) (by kernel_rfl) rfl) ?_; intro aM P; clear u
  refine q1 P 20 (.slice ao4 u1.length cap5) ?_; intro aN Q; clear P
  refine q1 Q 21 (i6 a) ?_; intro aO R; clear Q
  obtain ⟨aq, S⟩ := ap
  refine qix R (T := t8) (xs := u1) hs6 a aq (k := .i64) (e := 5) (bytes := 1) (nog rfl _) rfl (by kernel_rfl) rfl (by kernel_rfl) (by kernel_rfl) (by kernel_rfl) ?_; intro aP aQ ar i aR au av aw v; clear R
  have n := S i au; clear S
  obtain rfl : ar = ([y8 i] : List Value) := aw
  refine qst v (y8 i) (nog rfl _) rfl (by kernel_rfl) (fun v103 hC => lz v hC.fz av 0 (g := []) rfl (by kernel_rfl) (by kernel_rfl) (by kernel_rfl) rfl) ?_; intro aS U; clear v
  refine q1 U 24 (.bool (h != i)) ?_; intro aT j; clear U
  refine qnl (L _ ?_); clear L aj; intro aU o; clear c
  refine cd j (t := h != i) (by kernel_rfl) (fun x => ?_) (fun x => ?_)
  ·
   have ax := n.1 x; clear n
   refine sqB j o [] [] [(4, .bool false)] ?_; intro aV ay; clear j
   refine wp_ret ?_
   refine ibr ?_
   refine thr ?_
   refine thr ?_
   refine ibr ?_
   refine thr ?_
   refine ra1 ay (.bool false) ?_
   exact ⟨false, rfl, ax, o.below⟩
  have V := n.2 x; clear n
  refine wp_skip ?_
  refine ibn ?_
  refine thn ?_
  refine rgB j o [] [] [(13, i6 (w64 (a + 1)))] ?_; intro aW az; clear j
  refine rd ?_
  exact ⟨w64 (a + 1), V.1, V.2, (az.reg).anyβ _ (by kernel_rfl), o.keep (List.Sublist.slnil)⟩
 have aA := m.2 q; clear m
 refine wp_exit ?_
 refine thx ?_
 refine thx ?_
 refine ibx ?_
 refine thn ?_
 refine sqB f c [] [] [(4, .bool true)] ?_; intro aX aB; clear f
 refine wp_ret ?_
 refine ra1 aB (.bool true) ?_
 exact ⟨true, rfl, aA, c.below⟩

theorem hasprefix0_walk (u0 : List UInt8) (u1 : List UInt8)  (Z : Fz) (w : World)  (hZ : Z.on w) {K : Bool → Prop} (hp : hasprefix0_vc u0 u1 K) : Calls Tryz.prog 77 #[str u0, str u1] w fun e w' => ∃ r : Bool, e = .returned (.bool r) ∧ K r ∧ Below w.heap.size w w' := by
 refine enter0 Tryz.func77 rfl rfl (by kernel_rfl) ?_; intro A l; have a := Mem.start w Z hZ; have B := Fz.le.refl Z
 refine sqB l a [] [] [] ?_; intro C m; clear l
 refine sqH ?_; intro n h
 refine bt m a 6 [] [] [(10, .bool (decide ((u0.length : Int) ≥ (u1.length : Int))))] ?_; intro D i; clear m
 rcases Bool.eq_false_or_eq_true (decide ((u0.length : Int) ≥ (u1.length : Int))) with f | f
 ·
  have s := hp.1 f; clear hp
  have o := i.reval (d := 10) (c := []) (v := .bool (decide ((u0.length : Int) ≥ (u1.length : Int)))) (by kernel_rfl) (.bool true) (by rw [f]); clear i
  refine bt o a 3 [] [11, 12, 13] [(11, str u0), (13, i6 (u1.length : Int))] ?_; intro E j; clear o
  obtain ⟨t, u⟩ := s
  refine st j (str (u0.take (u1.length : Int).toNat)) (by rw [wanted_of j (b := true) rfl rfl (by kernel_rfl) (by kernel_rfl)]; rfl) rfl (by kernel_rfl) (strslH_run j (g := []) (k := .i64) rfl (by kernel_rfl) (by kernel_rfl) (by kernel_rfl) t rfl) ?_; intro F p; clear j
  refine bt p a 4 [] [15, 16, 17, 34] [(4, .bool ((u0.take (u1.length : Int).toNat) == u1))] ?_; intro G x; clear p
  refine nlH (h _ _ ?_); clear h n
  refine wp_ret ?_
  refine ra1 x (.bool ((u0.take (u1.length : Int).toNat) == u1)) ?_
  exact ⟨(u0.take (u1.length : Int).toNat) == u1, rfl, u, a.below⟩
 have y := hp.2 f; clear hp
 have q := i.reval (d := 10) (c := []) (v := .bool (decide ((u0.length : Int) ≥ (u1.length : Int)))) (by kernel_rfl) (.bool false) (by rw [f]); clear i
 refine bt q a 8 [] [11, 12, 13, 14, 15, 16, 17] [(4, .bool false)] ?_; intro H z; clear q
 refine nlH (h _ _ ?_); clear h n
 refine wp_ret ?_
 refine ra1 z (.bool false) ?_
 exact ⟨false, rfl, y, a.below⟩
theorem hasprefix0_fun (u0 : List UInt8) (u1 : List UInt8)  (Z : Fz) (w : World)  (hZ : Z.on w) : Calls Tryz.prog 77 #[str u0, str u1] w fun e w' => e = .returned (.bool (hasprefix0 u0 u1)) ∧ Below w.heap.size w w' :=
  (hasprefix0_walk u0 u1  Z w  hZ (hasprefix0_ok u0 u1)).mono fun _ _ ⟨r, he, hk, hb⟩ => ⟨by subst hk; exact he, hb⟩

theorem hasprefix_walk (u0 : List UInt8) (u1 : List UInt8)  (Z : Fz) (w : World)  (hZ : Z.on w) {K : Bool → Prop} (hp : hasprefix_vc u0 u1 K) : Calls Tryz.prog 43 #[str u0, str u1] w fun e w' => ∃ r : Bool, e = .returned (.bool r) ∧ K r ∧ Below w.heap.size w w' := by
 refine enter0 Tryz.func43 rfl rfl (by kernel_rfl) ?_; intro k b; have a := Mem.start w Z hZ; have l := Fz.le.refl Z
 refine sqB b a [] [] [] ?_; intro m c; clear b
 refine sqH ?_; intro h d
 refine bt c a 2 [] [] [(5, str u0), (6, str u1)] ?_; intro n f; clear c
 refine fc f a (hasprefix0_fun u0 u1 _ _ a.fz) ?_; intro o p g i; clear f a
 refine s1 g 4 (.bool (hasprefix0 u0 u1)) ?_; intro q j; clear g
 refine nlH (d _ _ ?_); clear d h
 refine wp_ret ?_
 refine ra1 j (.bool (hasprefix0 u0 u1)) ?_
 exact ⟨(hasprefix0 u0 u1), rfl, hp, i.below⟩
theorem hasprefix_fun (u0 : List UInt8) (u1 : List UInt8)  (Z : Fz) (w : World)  (hZ : Z.on w) : Calls Tryz.prog 43 #[str u0, str u1] w fun e w' => e = .returned (.bool (hasprefix u0 u1)) ∧ Below w.heap.size w w' :=
  (hasprefix_walk u0 u1  Z w  hZ (hasprefix_ok u0 u1)).mono fun _ _ ⟨r, he, hk, hb⟩ => ⟨by subst hk; exact he, hb⟩

theorem fname_walk (u0 : Frame) (ao1 : Option Addr) (cap2 : Nat) (Z : Fz) (w : World) (hs3 : SlR t8 Z ao1 cap2 u0.Data) (hZ : Z.on w) {K : (List UInt8) → Prop} (hp : fname_vc u0 K) : Calls Tryz.prog 53 #[.agg #[i6 u0.ID, .bool u0.Long, .bool u0.Fast, .bool u0.Remote, i6 u0.Size, .slice ao1 u0.Data.length cap2]] w fun e w' => ∃ r : (List UInt8), e = .returned (str r) ∧ K r ∧ Below w.heap.size w w' := by
 refine enter0 Tryz.func53 rfl rfl (by kernel_rfl) ?_; intro a0 u; have v := Mem.start w Z hZ; have aw := Fz.le.refl Z
 have f := hp (hs3.small); clear hp
 refine sqH ?_; intro U x
 refine nw u v pb (e24B u0 ao1 cap2) 24 ?_; intro a a7 ax y c; clear u v
 refine s1 y 2 (str []) ?_; intro ay z; clear y
 refine nlH (x _ _ ?_); clear x U
 refine wp_seq ?_
 refine sqB z c [0] [] [(5, .bool (!u0.Long))] ?_; intro A d; clear z
 refine cd d (t := !u0.Long) (by kernel_rfl) (fun h => ?_) (fun h => ?_)
 ·
  have V := f.1 h; clear f
  have B : Fr 30 [] [⟨1, [], pt a 0⟩] A := d.reg; clear d
  refine sqQH mixed (by kernel_rfl) c ?_; intro W C
  refine q1 B 6 (pt a 0) ?_; intro az i; clear B
  refine qst i (i6 u0.ID) (nog rfl _) rfl (by kernel_rfl) (fun v27 hC => ld i hC 0 (g := []) (b := a) (off := 0) (cs := (e24B u0 ao1 cap2)) (ty := 24) rfl (by kernel_rfl) (by kernel_rfl) (by kernel_rfl) (by kernel_rfl) rfl) ?_; intro aA D; clear i
  refine q1 D 8 (y6 (wu64 u0.ID)) ?_; intro aB E; clear D
  obtain ⟨X, Y⟩ := V
  refine qcl E (str (bwriteS (wu64 u0.ID) 11)) 71 #[y6 (wu64 u0.ID), i6 11] (nog rfl _) rfl (by kernel_rfl) (fun _ => by kernel_rfl) (qfc fun w hC => bwrite_fun (wu64 u0.ID) 11 X _ _ hC.fz) ?_; intro aC F; clear E
  refine q1 F 10 (pt a 3) ?_; intro aD j; clear F
  refine qst j (.bool u0.Remote) (nog rfl _) rfl (by kernel_rfl) (fun v41 hC => ld j hC 0 (g := []) (b := a) (off := 3) (cs := (e24B u0 ao1 cap2)) (ty := 24) rfl (by kernel_rfl) (by kernel_rfl) (by kernel_rfl) (by kernel_rfl) rfl) ?_; intro aE G; clear j
  refine qcl G (str (fbit u0.Remote)) 87 #[.bool u0.Remote] (nog rfl _) rfl (by kernel_rfl) (fun _ => by kernel_rfl) (qfc fun w hC => fbit_fun u0.Remote _ _ hC.fz) ?_; intro aF k; clear G
  obtain ⟨aa, ab⟩ := Y
  refine qst k (str ((bwriteS (wu64 u0.ID) 11) ++ (fbit u0.Remote))) (nog rfl _) rfl (by kernel_rfl) (fun v47 hC => stradd_run k (g := []) rfl (by kernel_rfl) (by kernel_rfl) aa rfl) ?_; intro aG l; clear k
  obtain ⟨ac, ad⟩ := ab
  refine qst l (str (((bwriteS (wu64 u0.ID) 11) ++ (fbit u0.Remote)) ++ ([48] : List UInt8))) (nog rfl _) rfl (by kernel_rfl) (fun v52 hC => stradd_run l (g := []) rfl (by kernel_rfl) (by kernel_rfl) ac rfl) ?_; intro aH H; clear l
  refine q1 H 2 (str (((bwriteS (wu64 u0.ID) 11) ++ (fbit u0.Remote)) ++ ([48] : List UInt8))) ?_; intro aI ae; clear H
  refine qnl (C _ ?_); clear C W; intro aJ af; clear c
  refine wp_ret ?_
  refine thr ?_
  refine ra1 ae (str (((bwriteS (wu64 u0.ID) 11) ++ (fbit u0.Remote)) ++ ([48] : List UInt8))) ?_
  exact ⟨((bwriteS (wu64 u0.ID) 11) ++ (fbit u0.Remote)) ++ ([48] : List UInt8), rfl, ad, af.below⟩
 have ag := f.2 h; clear f
 refine wp_skip ?_
 refine thn ?_
 have I : Fr 30 [] [⟨1, [], pt a 0⟩] A := d.reg; clear d
 refine sqQH mixed (by kernel_rfl) c ?_; intro ah J
 refine q1 I 15 (pt a 0) ?_; intro aK m; clear I
 refine qst m (i6 u0.ID) (nog rfl _) rfl (by kernel_rfl) (fun v68 hC => ld m hC 0 (g := []) (b := a) (off := 0) (cs := (e24B u0 ao1 cap2)) (ty := 24) rfl (by kernel_rfl) (by kernel_rfl) (by kernel_rfl) (by kernel_rfl) rfl) ?_; intro aL L; clear m
 refine q1 L 17 (i6 (bShr .i64 u0.ID 18)) ?_; intro aM M; clear L
 refine q1 M 18 (y6 (wu64 (bShr .i64 u0.ID 18))) ?_; intro aN N; clear M
 obtain ⟨ai, aj⟩ := ag
 refine qcl N (str (bwriteS (wu64 (bShr .i64 u0.ID 18)) 11)) 71 #[y6 (wu64 (bShr .i64 u0.ID 18)), i6 11] (nog rfl _) rfl (by kernel_rfl) (fun _ => by kernel_rfl) (qfc fun w hC => bwrite_fun (wu64 (bShr .i64 u0.ID 18)) 11 ai _ _ hC.fz) ?_; intro aO n; clear N
 obtain ⟨ak, al⟩ := aj
 refine qst n (str ((bwriteS (wu64 (bShr .i64 u0.ID 18)) 11) ++ ([49, 49] : List UInt8))) (nog rfl _) rfl (by kernel_rfl) (fun v82 hC => stradd_run n (g := []) rfl (by kernel_rfl) (by kernel_rfl) ak rfl) ?_; intro aP O; clear n
 refine q1 O 21 (pt a 0) ?_; intro aQ o; clear O
 refine qst o (i6 u0.ID) (nog rfl _) rfl (by kernel_rfl) (fun v90 hC => ld o hC 0 (g := []) (b := a) (off := 0) (cs := (e24B u0 ao1 cap2)) (ty := 24) rfl (by kernel_rfl) (by kernel_rfl) (by kernel_rfl) (by kernel_rfl) rfl) ?_; intro aR P; clear o
 refine q1 P 23 (y6 (wu64 u0.ID)) ?_; intro aS Q; clear P
 obtain ⟨am, an⟩ := al
 refine qcl Q (str (bwriteS (wu64 u0.ID) 18)) 71 #[y6 (wu64 u0.ID), i6 18] (nog rfl _) rfl (by kernel_rfl) (fun _ => by kernel_rfl) (qfc fun w hC => bwrite_fun (wu64 u0.ID) 18 am _ _ hC.fz) ?_; intro aT p; clear Q
 obtain ⟨ao, ap⟩ := an
 refine qst p (str (((bwriteS (wu64 (bShr .i64 u0.ID 18)) 11) ++ ([49, 49] : List UInt8)) ++ (bwriteS (wu64 u0.ID) 18))) (nog rfl _) rfl (by kernel_rfl) (fun v101 hC => stradd_run p (g := []) rfl (by kernel_rfl) (by kernel_rfl) ao rfl) ?_; intro aU R; clear p
 refine q1 R 26 (pt a 3) ?_; intro aV q; clear R
 refine qst q (.bool u0.Remote) (nog rfl _) rfl (by kernel_rfl) (fun v109 hC => ld q hC 0 (g := []) (b := a) (off := 3) (cs := (e24B u0 ao1 cap2)) (ty := 24) rfl (by kernel_rfl) (by kernel_rfl) (by kernel_rfl) (by kernel_rfl) rfl) ?_; intro aW S; clear q
 refine qcl S (str (fbit u0.Remote)) 87 #[.bool u0.Remote] (nog rfl _) rfl (by kernel_rfl) (fun _ => by kernel_rfl) (qfc fun w hC => fbit_fun u0.Remote _ _ hC.fz) ?_; intro aX s; clear S
 obtain ⟨aq, ar⟩ := ap
 refine qst s (str ((((bwriteS (wu64 (bShr .i64 u0.ID 18)) 11) ++ ([49, 49] : List UInt8)) ++ (bwriteS (wu64 u0.ID) 18)) ++ (fbit u0.Remote))) (nog rfl _) rfl (by kernel_rfl) (fun v115 hC => stradd_run s (g := []) rfl (by kernel_rfl) (by kernel_rfl) aq rfl) ?_; intro aY T; clear s
 refine q1 T 2 (str ((((bwriteS (wu64 (bShr .i64 u0.ID 18)) 11) ++ ([49, 49] : List UInt8)) ++ (bwriteS (wu64 u0.ID) 18)) ++ (fbit u0.Remote))) ?_; intro aZ au; clear T
 refine qnl (J _ ?_); clear J ah; intro a1 av; clear c
 refine wp_ret ?_
 refine ra1 au (str ((((bwriteS (wu64 (bShr .i64 u0.ID 18)) 11) ++ ([49, 49] : List UInt8)) ++ (bwriteS (wu64 u0.ID) 18)) ++ (fbit u0.Remote))) ?_
 exact ⟨(((bwriteS (wu64 (bShr .i64 u0.ID 18)) 11) ++ ([49, 49] : List UInt8)) ++ (bwriteS (wu64 u0.ID) 18)) ++ (fbit u0.Remote), rfl, ar, av.below⟩

theorem fcheckfr_walk (u0 : Frame) (ao1 : Option Addr) (cap2 : Nat) (Z : Fz) (w : World) (hs3 : SlR t8 Z ao1 cap2 u0.Data) (hZ : Z.on w) {K : Int → Prop} (hp : fcheckfr_vc u0 K) : Calls Tryz.prog 18 #[.agg #[i6 u0.ID, .bool u0.Long, .bool u0.Fast, .bool u0.Remote, i6 u0.Size, .slice ao1 u0.Data.length cap2]] w fun e w' => ∃ r : Int, e = .returned (i6 r) ∧ K r ∧ Below w.heap.size w w' := by
 refine enter0 Tryz.func18 rfl rfl (by kernel_rfl) ?_; intro a0 C; have D := Mem.start w Z hZ; have j := Fz.le.refl Z
 have k := hp (hs3.small); clear hp
 refine sqH ?_; intro V E
 refine nw C D pb (e24B u0 ao1 cap2) 24 ?_; intro l a7 aq F a; clear C D
 refine s1 F 2 (i6 0) ?_; intro ar G; clear F
 refine nlH (E _ _ ?_); clear E V
 refine wp_seq ?_
 refine wp_block ?_
 refine sqB G a [0, 0, 0, 0] [] [(3, .bool (((decide (u0.ID < 0)) || ((!u0.Long) && (decide (u0.ID > 2047)))) || (decide (u0.ID > 536870911))))] ?_; intro au c; clear G
 refine cd c (t := ((decide (u0.ID < 0)) || ((!u0.Long) && (decide (u0.ID > 2047)))) || (decide (u0.ID > 536870911))) (by kernel_rfl) (fun q => ?_) (fun q => ?_)
 ·
  have W := k.1 q; clear k
  refine sqB c a [] [] [(2, i6 3)] ?_; intro av X; clear c
  refine wp_ret ?_
  refine ibr ?_
  refine thr ?_
  refine ra1 X (i6 3) ?_
  exact ⟨3, rfl, W, a.below⟩
 have m := k.2 q; clear k
 refine sqB c a [0, 0, 0] [] [(22, .bool (u0.Remote && (u0.Fast || (decide ((u0.Data.length : Int) > 0)))))] ?_; intro aw d; clear c
 refine cd d (t := u0.Remote && (u0.Fast || (decide ((u0.Data.length : Int) > 0)))) (by kernel_rfl) (fun s => ?_) (fun s => ?_)
 ·
  have Y := m.1 s; clear m
  refine sqB d a [] [] [(2, i6 4)] ?_; intro ax aa; clear d
  refine wp_ret ?_
  refine ibr ?_
  refine thr ?_
  refine ra1 aa (i6 4) ?_
  exact ⟨4, rfl, Y, a.below⟩
 have n := m.2 s; clear m
 refine sqB d a [0, 0, 0, 0] [] [(35, .bool (((decide (u0.Size < 0)) || (decide (u0.Size > 8))) || ((!u0.Remote) && (u0.Size != 0))))] ?_; intro ay f; clear d
 refine cd f (t := ((decide (u0.Size < 0)) || (decide (u0.Size > 8))) || ((!u0.Remote) && (u0.Size != 0))) (by kernel_rfl) (fun u => ?_) (fun u => ?_)
 ·
  have ab := n.1 u; clear n
  refine sqB f a [] [] [(2, i6 3)] ?_; intro az ac; clear f
  refine wp_ret ?_
  refine ibr ?_
  refine thr ?_
  refine ra1 ac (i6 3) ?_
  exact ⟨3, rfl, ab, a.below⟩
 have o := n.2 u; clear n
 refine sqB f a [0, 0, 0] [] [(54, .bool ((decide ((u0.Data.length : Int) > 64)) || ((!u0.Fast) && (decide ((u0.Data.length : Int) > 8)))))] ?_; intro ad g; clear f
 refine cd g (t := (decide ((u0.Data.length : Int) > 64)) || ((!u0.Fast) && (decide ((u0.Data.length : Int) > 8)))) (by kernel_rfl) (fun v => ?_) (fun v => ?_)
 ·
  have ae := o.1 v; clear o
  refine sqB g a [] [] [(2, i6 2)] ?_; intro aA af; clear g
  refine wp_ret ?_
  refine ibr ?_
  refine thr ?_
  refine ra1 af (i6 2) ?_
  exact ⟨2, rfl, ae, a.below⟩
 have p := o.2 v; clear o
 have H : Fr 77 [] [⟨1, [], pt l 0⟩] ad := g.reg; clear g
 refine wp_seq (rgS mixed a [(1, true), (2, true), (3, true), (0, false), (4, false), (5, true), (6, true)] [] [0] [.row l (e24B u0 ao1 cap2) 24] ?_)
 intro ag I aB x; clear a
 have b := Fz.le.refl Z
 refine cS H 3 [0] [] [(74, i6 (u0.Data.length : Int))] ?_; intro aC J; clear H
 refine eS rfl ?_; intro ah L
 refine ck J 35 #[] ?_
 refine (fsizes_fun  _ _ x.fz).mono ?_; rintro _ M ⟨N, O, ai, rfl, hm⟩; refine ⟨_, rfl, ?_⟩; intro aD P; have Q := x.callZ hm; have y := hm.ext.le; clear hm x J
 replace hs3 := hs3.mono y
 replace b := b.mono y
 replace j := Fz.le.trans j y
 have R : Mem w.heap.size [] w Z [.own t6 3 N O fsizes, .row l (e24B u0 ao1 cap2) 24] ai M := Q; clear Q
 refine nl (qnI (L _ _ (R.cst b [1]) ?_)); clear L ah
 refine eS rfl ?_; intro aj S
 obtain ⟨ak, z, T, al⟩ := R.freeze 0 rfl
 replace hs3 := hs3.mono z
 replace b := b.mono z
 replace j := Fz.le.trans j z
 have A : Mem w.heap.size [] w Z [.row l (e24B u0 ao1 cap2) 24] ak M := T; clear T
 refine fc P A (scontains_fun fsizes (u0.Data.length : Int) N O _ _ al A.fz) ?_; intro aE aF U h; clear P A
 refine nl (qnI (S _ _ (h.cst b [0]) ?_)); clear S aj
 refine cS U 2 [] [] [(70, .bool (!(scontainsS fsizes (u0.Data.length : Int))))] ?_; intro aG i; clear U
 refine nS (I _ _ ?_); clear I ag
 refine thn ?_
 refine cd i (t := !(scontainsS fsizes (u0.Data.length : Int))) (by kernel_rfl) (fun B => ?_) (fun B => ?_)
 ·
  have am := p.1 B; clear p
  refine sqB i h [] [] [(2, i6 4)] ?_; intro aH an; clear i
  refine wp_ret ?_
  refine ibr ?_
  refine thr ?_
  refine ra1 an (i6 4) ?_
  exact ⟨4, rfl, am, h.below⟩
 have ao := p.2 B; clear p
 refine wp_skip ?_
 refine ibn ?_
 refine thn ?_
 refine sqB i h [] [] [(2, i6 0)] ?_; intro aI ap; clear i
 refine wp_ret ?_
 refine ra1 ap (i6 0) ?_
 exact ⟨0, rfl, ao, h.below⟩
theorem fcheckfr_fun (u0 : Frame) (ao1 : Option Addr) (cap2 : Nat) (Z : Fz) (w : World) (hs3 : SlR t8 Z ao1 cap2 u0.Data) (hZ : Z.on w) : Calls Tryz.prog 18 #[.agg #[i6 u0.ID, .bool u0.Long, .bool u0.Fast, .bool u0.Remote, i6 u0.Size, .slice ao1 u0.Data.length cap2]] w fun e w' => e = .returned (i6 (fcheckfr u0)) ∧ Below w.heap.size w w' :=
  (fcheckfr_walk u0 ao1 cap2 Z w hs3 hZ (fcheckfr_ok u0)).mono fun _ _ ⟨r, he, hk, hb⟩ => ⟨by subst hk; exact he, hb⟩

theorem fcount_walk (u0 : Int)  (Z : Fz) (w : World)  (hZ : Z.on w) {K : (List UInt8) → Prop} (hp : fcount_vc u0 K) : Calls Tryz.prog 55 #[i6 u0] w fun e w' => ∃ r : (List UInt8), e = .returned (str r) ∧ K r ∧ Below w.heap.size w w' := by
 refine enter0 Tryz.func55 rfl rfl (by kernel_rfl) ?_; intro D d; have a := Mem.start w Z hZ; have E := Fz.le.refl Z
 refine sqB d a [] [] [] ?_; intro F f; clear d
 refine sqB f a [] [] [(3, i6 (bXor .i64 (u0.tmod 8) (bShr .i64 (u0.tmod 8) 1)))] ?_; intro G g; clear f
 refine sqH ?_; intro s h
 refine bt g a 2 [] [] [(12, y6 (wu64 (bXor .i64 (u0.tmod 8) (bShr .i64 (u0.tmod 8) 1))))] ?_; intro H i; clear g
 obtain ⟨t, u⟩ := hp
 refine fc i a (bwrite_fun (wu64 (bXor .i64 (u0.tmod 8) (bShr .i64 (u0.tmod 8) 1))) 3 t _ _ a.fz) ?_; intro I J j b; clear i a
 refine s1 j 4 (str (bwriteS (wu64 (bXor .i64 (u0.tmod 8) (bShr .i64 (u0.tmod 8) 1))) 3)) ?_; intro L k; clear j
 refine nlH (h _ _ ?_); clear h s
 refine sqH ?_; intro v l
 refine bt k b 2 [] [] [(14, str (bwriteS (wu64 (bXor .i64 (u0.tmod 8) (bShr .i64 (u0.tmod 8) 1))) 3)), (15, str (bwriteS (wu64 (bXor .i64 (u0.tmod 8) (bShr .i64 (u0.tmod 8) 1))) 3))] ?_; intro M m; clear k
 obtain ⟨x, y⟩ := u
 refine fc m b (count1_fun (bwriteS (wu64 (bXor .i64 (u0.tmod 8) (bShr .i64 (u0.tmod 8) 1))) 3) ([49] : List UInt8) x _ _ b.fz) ?_; intro N O n c; clear m b
 refine bt n c 2 [] [] [(18, .bool (((count1S (bwriteS (wu64 (bXor .i64 (u0.tmod 8) (bShr .i64 (u0.tmod 8) 1))) 3) ([49] : List UInt8)).tmod 2) == 1))] ?_; intro P o; clear n
 refine fc o c (fbit_fun (((count1S (bwriteS (wu64 (bXor .i64 (u0.tmod 8) (bShr .i64 (u0.tmod 8) 1))) 3) ([49] : List UInt8)).tmod 2) == 1) _ _ c.fz) ?_; intro Q R p z; clear o c
 obtain ⟨A, B⟩ := y
 refine sa p A ?_; intro S q; clear p
 refine s1 q 2 (str ((bwriteS (wu64 (bXor .i64 (u0.tmod 8) (bShr .i64 (u0.tmod 8) 1))) 3) ++ (fbit (((count1S (bwriteS (wu64 (bXor .i64 (u0.tmod 8) (bShr .i64 (u0.tmod 8) 1))) 3) ([49] : List UInt8)).tmod 2) == 1)))) ?_; intro T C; clear q
 refine nlH (l _ _ ?_); clear l v
 refine wp_ret ?_
 refine ra1 C (str ((bwriteS (wu64 (bXor .i64 (u0.tmod 8) (bShr .i64 (u0.tmod 8) 1))) 3) ++ (fbit (((count1S (bwriteS (wu64 (bXor .i64 (u0.tmod 8) (bShr .i64 (u0.tmod 8) 1))) 3) ([49] : List UInt8)).tmod 2) == 1)))) ?_
 exact ⟨(bwriteS (wu64 (bXor .i64 (u0.tmod 8) (bShr .i64 (u0.tmod 8) 1))) 3) ++ (fbit (((count1S (bwriteS (wu64 (bXor .i64 (u0.tmod 8) (bShr .i64 (u0.tmod 8) 1))) 3) ([49] : List UInt8)).tmod 2) == 1)), rfl, B, z.below⟩

end Go.Proofs.YtmbdcehmeiiaoaaGreatDoor
set_option linter.unusedVariables false
set_option linter.unusedSimpArgs false
set_option maxRecDepth 100000
set_option maxHeartbeats 0
namespace Go.Proofs.YtmbdcehmeiiaoaaGreatDoor
open Go.Sy Go.RowKit
abbrev e24C (X : Frame) (A0 : Option Addr) (C0 : Nat) : List Value := [i6 X.ID, .bool X.Long, .bool X.Fast, .bool X.Remote, i6 X.Size, .slice A0 X.Data.length C0]
theorem csum_fun (u0 : Int) (u1 : List UInt8)  (Z : Fz) (w : World)  (hZ : Z.on w) : Calls Tryz.prog 39 #[i6 u0, str u1] w fun e w' => e = .returned (.tuple #[str (csumS u0 u1).1, i6 (csumS u0 u1).2]) ∧ Below w.heap.size w w' :=
  (csum_walk u0 u1  Z w  hZ (csum_ok u0 u1)).mono fun _ _ ⟨r, he, hk, hb⟩ => ⟨by subst hk; exact he, hb⟩

theorem bof_fun (u0 : List Int) (hpre : ∀ x ∈ u0, 0 ≤ x ∧ x ≤ 255) (ao1 : Option Addr) (cap2 : Nat) (Z : Fz) (w : World) (hs3 : SlR t8 Z ao1 cap2 u0) (hZ : Z.on w) : Calls Tryz.prog 73 #[.slice ao1 u0.length cap2] w fun e w' => e = .returned (.tuple #[str (bofS u0).1, i6 (bofS u0).2]) ∧ Below w.heap.size w w' :=
  (bof_walk u0 ao1 cap2 Z w hs3 hZ (bof_ok u0 hpre)).mono fun _ _ ⟨r, he, hk, hb⟩ => ⟨by subst hk; exact he, hb⟩


theorem rtakeF_fun (u0 : FReader) (u1 : Int) (hpre : Rok u0.Reader ∧ u1 ≤ 9223372036854775807) (b1 : Nat) (ao2 : Option Addr) (cap3 : Nat) (B : Nat) (w0 : World) (Z0 : Fz) (Rr : List Res) (Z : Fz) (w : World) (hs4 : SlR t8 Z ao2 cap3 u0.f.Data) (hM0 : Mem B [] w0 Z0 ((.row b1 [str u0.Reader.Row, i6 u0.Reader.At, i6 u0.Reader.Code, y8 u0.Reader.c.last, i6 u0.Reader.c.n, i6 u0.f.ID, .bool u0.f.Long, .bool u0.f.Fast, .bool u0.f.Remote, i6 u0.f.Size, .slice ao2 u0.f.Data.length cap3] 61) :: Rr) Z w) (hZ : Z.on w) : Calls Tryz.prog 36 #[pt b1 0, i6 u1] w fun e w' => ∃ (ao1001 : Option Addr) (cap1002 : Nat) (Z' : Fz), e = .returned (str (rtakeFS u0 u1).1) ∧ Fz.le Z Z' ∧ SlR t8 Z' ao1001 cap1002 (rtakeFS u0 u1).2.f.Data ∧ Mem B [] w0 Z0 ((.row b1 [str (rtakeFS u0 u1).2.Reader.Row, i6 (rtakeFS u0 u1).2.Reader.At, i6 (rtakeFS u0 u1).2.Reader.Code, y8 (rtakeFS u0 u1).2.Reader.c.last, i6 (rtakeFS u0 u1).2.Reader.c.n, i6 (rtakeFS u0 u1).2.f.ID, .bool (rtakeFS u0 u1).2.f.Long, .bool (rtakeFS u0 u1).2.f.Fast, .bool (rtakeFS u0 u1).2.f.Remote, i6 (rtakeFS u0 u1).2.f.Size, .slice ao1001 (rtakeFS u0 u1).2.f.Data.length cap1002] 61) :: Rr) Z' w' :=
  (rtakeF_walk u0 u1 b1 ao2 cap3 B w0 Z0 Rr Z w hs4 hM0 hZ (rtakeF_ok u0 u1 hpre)).mono fun _ _ ⟨r, h0, h1, h2, he, hk, f0, f1, hm⟩ => by subst hk; exact ⟨h0, h1, h2, he, f0, f1, hm⟩
theorem rtakeF_funK (u0 : FReader) (u1 : Int) (hpre : Rok u0.Reader ∧ u1 ≤ 9223372036854775807) (b1 : Nat) (ao2 : Option Addr) (cap3 : Nat) (B : Nat) (w0 : World) (Z0 : Fz) (Rr : List Res) (Z : Fz) (w : World) (hs4 : SlR t8 Z ao2 cap3 u0.f.Data) (hM0 : Mem B [] w0 Z0 ((.row b1 [str u0.Reader.Row, i6 u0.Reader.At, i6 u0.Reader.Code, y8 u0.Reader.c.last, i6 u0.Reader.c.n, i6 u0.f.ID, .bool u0.f.Long, .bool u0.f.Fast, .bool u0.f.Remote, i6 u0.f.Size, .slice ao2 u0.f.Data.length cap3] 61) :: Rr) Z w) (hZ : Z.on w) : Calls Tryz.prog 36 #[pt b1 0, i6 u1] w fun e w' => ∃ (ao1001 : Option Addr) (cap1002 : Nat) (Z' : Fz), e = .returned (str (rtakeFS u0 u1).1) ∧ Fz.le Z Z' ∧ SlR t8 Z' ao1001 cap1002 u0.f.Data ∧ Mem B [] w0 Z0 ((.row b1 [str (rtakeFS u0 u1).2.Reader.Row, i6 (rtakeFS u0 u1).2.Reader.At, i6 (rtakeFS u0 u1).2.Reader.Code, y8 (rtakeFS u0 u1).2.Reader.c.last, i6 (rtakeFS u0 u1).2.Reader.c.n, i6 u0.f.ID, .bool u0.f.Long, .bool u0.f.Fast, .bool u0.f.Remote, i6 u0.f.Size, .slice ao1001 u0.f.Data.length cap1002] 61) :: Rr) Z' w' :=
  (rtakeF_walk u0 u1 b1 ao2 cap3 B w0 Z0 Rr Z w hs4 hM0 hZ (rtakeF_ok u0 u1 hpre)).mono fun _ _ ⟨r, h0, h1, h2, he, hk, f0, f1, hm⟩ => by subst hk; have hkp : (rtakeFS u0 u1).2.f = u0.f := rtakeFS_f u0 u1; (try simp only [hkp] at *); exact ⟨h0, h1, h2, he, f0, f1, hm⟩


theorem rplainF_fun (u0 : FReader) (u1 : Int) (hpre : (0 ≤ u0.Reader.At ∧ u0.Reader.At ≤ (u0.Reader.Row.length : Int) ∧ u0.Reader.Row.length ≤ 1000000) ∧ u1 ≤ 1000000) (b1 : Nat) (ao2 : Option Addr) (cap3 : Nat) (B : Nat) (w0 : World) (Z0 : Fz) (Rr : List Res) (Z : Fz) (w : World) (hs4 : SlR t8 Z ao2 cap3 u0.f.Data) (hM0 : Mem B [] w0 Z0 ((.row b1 [str u0.Reader.Row, i6 u0.Reader.At, i6 u0.Reader.Code, y8 u0.Reader.c.last, i6 u0.Reader.c.n, i6 u0.f.ID, .bool u0.f.Long, .bool u0.f.Fast, .bool u0.f.Remote, i6 u0.f.Size, .slice ao2 u0.f.Data.length cap3] 61) :: Rr) Z w) (hZ : Z.on w) : Calls Tryz.prog 41 #[pt b1 0, i6 u1] w fun e w' => ∃ (ao1001 : Option Addr) (cap1002 : Nat) (Z' : Fz), e = .returned (str (rplainFS u0 u1).1) ∧ Fz.le Z Z' ∧ SlR t8 Z' ao1001 cap1002 (rplainFS u0 u1).2.f.Data ∧ Mem B [] w0 Z0 ((.row b1 [str (rplainFS u0 u1).2.Reader.Row, i6 (rplainFS u0 u1).2.Reader.At, i6 (rplainFS u0 u1).2.Reader.Code, y8 (rplainFS u0 u1).2.Reader.c.last, i6 (rplainFS u0 u1).2.Reader.c.n, i6 (rplainFS u0 u1).2.f.ID, .bool (rplainFS u0 u1).2.f.Long, .bool (rplainFS u0 u1).2.f.Fast, .bool (rplainFS u0 u1).2.f.Remote, i6 (rplainFS u0 u1).2.f.Size, .slice ao1001 (rplainFS u0 u1).2.f.Data.length cap1002] 61) :: Rr) Z' w' :=
  (rplainF_walk u0 u1 b1 ao2 cap3 B w0 Z0 Rr Z w hs4 hM0 hZ (rplainF_ok u0 u1 hpre)).mono fun _ _ ⟨r, h0, h1, h2, he, hk, f0, f1, hm⟩ => by subst hk; exact ⟨h0, h1, h2, he, f0, f1, hm⟩
theorem rplainF_funK (u0 : FReader) (u1 : Int) (hpre : (0 ≤ u0.Reader.At ∧ u0.Reader.At ≤ (u0.Reader.Row.length : Int) ∧ u0.Reader.Row.length ≤ 1000000) ∧ u1 ≤ 1000000) (b1 : Nat) (ao2 : Option Addr) (cap3 : Nat) (B : Nat) (w0 : World) (Z0 : Fz) (Rr : List Res) (Z : Fz) (w : World) (hs4 : SlR t8 Z ao2 cap3 u0.f.Data) (hM0 : Mem B [] w0 Z0 ((.row b1 [str u0.Reader.Row, i6 u0.Reader.At, i6 u0.Reader.Code, y8 u0.Reader.c.last, i6 u0.Reader.c.n, i6 u0.f.ID, .bool u0.f.Long, .bool u0.f.Fast, .bool u0.f.Remote, i6 u0.f.Size, .slice ao2 u0.f.Data.length cap3] 61) :: Rr) Z w) (hZ : Z.on w) : Calls Tryz.prog 41 #[pt b1 0, i6 u1] w fun e w' => ∃ (ao1001 : Option Addr) (cap1002 : Nat) (Z' : Fz), e = .returned (str (rplainFS u0 u1).1) ∧ Fz.le Z Z' ∧ SlR t8 Z' ao1001 cap1002 u0.f.Data ∧ Mem B [] w0 Z0 ((.row b1 [str (rplainFS u0 u1).2.Reader.Row, i6 (rplainFS u0 u1).2.Reader.At, i6 (rplainFS u0 u1).2.Reader.Code, y8 (rplainFS u0 u1).2.Reader.c.last, i6 (rplainFS u0 u1).2.Reader.c.n, i6 u0.f.ID, .bool u0.f.Long, .bool u0.f.Fast, .bool u0.f.Remote, i6 u0.f.Size, .slice ao1001 u0.f.Data.length cap1002] 61) :: Rr) Z' w' :=
  (rplainF_walk u0 u1 b1 ao2 cap3 B w0 Z0 Rr Z w hs4 hM0 hZ (rplainF_ok u0 u1 hpre)).mono fun _ _ ⟨r, h0, h1, h2, he, hk, f0, f1, hm⟩ => by subst hk; have hkp : (rplainFS u0 u1).2.f = u0.f := rplainFS_f u0 u1; (try simp only [hkp] at *); exact ⟨h0, h1, h2, he, f0, f1, hm⟩

theorem sput_fun (u0 : List UInt8)  (Z : Fz) (w : World)  (hZ : Z.on w) : Calls Tryz.prog 54 #[str u0] w fun e w' => e = .returned (.tuple #[str (sputS u0).1, i6 (sputS u0).2]) ∧ Below w.heap.size w w' :=
  (sput_walk u0  Z w  hZ (sput_ok u0)).mono fun _ _ ⟨r, he, hk, hb⟩ => ⟨by subst hk; exact he, hb⟩

theorem sfixed_fun (u0 : List UInt8) (u1 : Int)  (Z : Fz) (w : World)  (hZ : Z.on w) : Calls Tryz.prog 57 #[str u0, y8 u1] w fun e w' => e = .returned (.tuple #[str (sfixedS u0 u1).1, i6 (sfixedS u0 u1).2]) ∧ Below w.heap.size w w' :=
  (sfixed_walk u0 u1  Z w  hZ (sfixed_ok u0 u1)).mono fun _ _ ⟨r, he, hk, hb⟩ => ⟨by subst hk; exact he, hb⟩

theorem bbytes_fun (u0 : List UInt8)  (Z : Fz) (w : World)  (hZ : Z.on w) : Calls Tryz.prog 37 #[str u0] w fun e w' => ∃ (ao1001 : Option Addr) (cap1002 : Nat) (Z' : Fz), e = .returned (.tuple #[.slice ao1001 (bbytesS u0).1.length cap1002, i6 (bbytesS u0).2]) ∧ Mem w.heap.size [] w Z [.own t8 5 ao1001 cap1002 (bbytesS u0).1] Z' w' :=
  (bbytes_walk u0  Z w  hZ (bbytes_ok u0)).mono fun _ _ ⟨r, h0, h1, h2, he, hk, hm⟩ => by subst hk; exact ⟨h0, h1, h2, he, hm⟩

theorem beq_fun (u0 : List Int) (u1 : List Int) (ao1 : Option Addr) (cap2 : Nat) (ao4 : Option Addr) (cap5 : Nat) (Z : Fz) (w : World) (hs3 : SlR t8 Z ao1 cap2 u0) (hs6 : SlR t8 Z ao4 cap5 u1) (hZ : Z.on w) : Calls Tryz.prog 52 #[.slice ao1 u0.length cap2, .slice ao4 u1.length cap5] w fun e w' => e = .returned (.bool (beqS u0 u1)) ∧ Below w.heap.size w w' :=
  (beq_walk u0 u1 ao1 cap2 ao4 cap5 Z w hs3 hs6 hZ (beq_ok u0 u1)).mono fun _ _ ⟨r, he, hk, hb⟩ => ⟨by subst hk; exact he, hb⟩

theorem fname_fun (u0 : Frame) (hpre : 0 ≤ u0.ID ∧ u0.ID ≤ 536870911) (ao1 : Option Addr) (cap2 : Nat) (Z : Fz) (w : World) (hs3 : SlR t8 Z ao1 cap2 u0.Data) (hZ : Z.on w) : Calls Tryz.prog 53 #[.agg #[i6 u0.ID, .bool u0.Long, .bool u0.Fast, .bool u0.Remote, i6 u0.Size, .slice ao1 u0.Data.length cap2]] w fun e w' => e = .returned (str (fnameS u0)) ∧ Below w.heap.size w w' :=
  (fname_walk u0 ao1 cap2 Z w hs3 hZ (fname_ok u0 hpre)).mono fun _ _ ⟨r, he, hk, hb⟩ => ⟨by subst hk; exact he, hb⟩

theorem fcount_fun (u0 : Int) (hpre : 0 ≤ u0)  (Z : Fz) (w : World)  (hZ : Z.on w) : Calls Tryz.prog 55 #[i6 u0] w fun e w' => e = .returned (str (fcountS u0)) ∧ Below w.heap.size w w' :=
  (fcount_walk u0  Z w  hZ (fcount_ok u0 hpre)).mono fun _ _ ⟨r, he, hk, hb⟩ => ⟨by subst hk; exact he, hb⟩

theorem fhead_walk (u0 : Frame) (ao1 : Option Addr) (cap2 : Nat) (Z : Fz) (w : World) (hs3 : SlR t8 Z ao1 cap2 u0.Data) (hZ : Z.on w) {K : (List UInt8) → Prop} (hp : fhead_vc u0 K) : Calls Tryz.prog 40 #[.agg #[i6 u0.ID, .bool u0.Long, .bool u0.Fast, .bool u0.Remote, i6 u0.Size, .slice ao1 u0.Data.length cap2]] w fun e w' => ∃ r : (List UInt8), e = .returned (str r) ∧ K r ∧ Below w.heap.size w w' := by
 refine enter0 Tryz.func40 rfl rfl (by kernel_rfl) ?_; intro a0 L; have M := Mem.start w Z hZ; have s := Fz.le.refl Z
 have u := hp (hs3.small); clear hp
 refine sqH ?_; intro bS N
 refine nw L M pb (e24C u0 ao1 cap2) 24 ?_; intro v a7 dN O c; clear L M
 refine s1 O 2 (str []) ?_; intro dO P; clear O
 refine nlH (N _ _ ?_); clear N bS
 refine sqB P c [0] [] [(3, i6 u0.Size)] ?_; intro dP Q; clear P
 refine wp_seq ?_
 refine sqB Q c [0] [] [(11, .bool (!u0.Remote))] ?_; intro bT f; clear Q
 refine cd f (t := !u0.Remote) (by kernel_rfl) (fun B => ?_) (fun B => ?_)
 ·
  have bU := u.1 B; clear u
  have R : Fr 45 [] [⟨1, [], pt v 0⟩] bT := f.reg; clear f
  refine rgS mixed c [(1, true), (2, true), (3, true), (0, false), (4, false), (5, true)] [] [0] [.row v (e24C u0 ao1 cap2) 24] ?_
  intro bV S dQ C; clear c
  have d := Fz.le.refl Z
  refine cS R 3 [0] [] [(15, i6 (u0.Data.length : Int))] ?_; intro dR T; clear R
  refine eS rfl ?_; intro bW U
  refine ck T 35 #[] ?_
  refine (fsizes_fun  _ _ C.fz).mono ?_; rintro _ V ⟨W, X, bX, rfl, hm⟩; refine ⟨_, rfl, ?_⟩; intro dS Y; have aa := C.callZ hm; have D := hm.ext.le; clear hm C T
  replace hs3 := hs3.mono D
  replace d := d.mono D
  replace s := Fz.le.trans s D
  have ab : Mem w.heap.size [] w Z [.own t6 3 W X fsizes, .row v (e24C u0 ao1 cap2) 24] bX V := aa; clear aa
  refine nl (qnI (U _ _ (ab.cst d [1]) ?_)); clear U bW
  refine eS rfl ?_; intro bY ac
  obtain ⟨bZ, E, ad, b0⟩ := ab.freeze 0 rfl
  replace hs3 := hs3.mono E
  replace d := d.mono E
  replace s := Fz.le.trans s E
  have F : Mem w.heap.size [] w Z [.row v (e24C u0 ao1 cap2) 24] bZ V := ad; clear ad
  refine fc Y F (sindex_fun fsizes (u0.Data.length : Int) W X _ _ b0 F.fz) ?_; intro dT dU ae g; clear Y F
  refine nl (qnI (ac _ _ (g.cst d [0]) ?_)); clear ac bY
  refine cS ae 1 [] [] [(3, i6 (sindexS fsizes (u0.Data.length : Int)))] ?_; intro dV af; clear ae
  refine nS (S _ _ ?_); clear S bV
  refine thn ?_
  refine sqH ?_; intro b1 ag
  refine l2 af g 17 0 0 6 (e24C u0 ao1 cap2) rfl rfl ?_; intro dW ah; clear af
  obtain ⟨b2, b3⟩ := bU
  refine fc ah g (fname_fun u0 b2 ao1 cap2 _ _ hs3 g.fz) ?_; intro dX dY ai a; clear ah g
  obtain ⟨b4, x⟩ := b3
  refine sa ai b4 ?_; intro dZ aj; clear ai
  refine s1 aj 4 (str (([48] : List UInt8) ++ (fnameS u0))) ?_; intro d0 ak; clear aj
  refine nlH (ag _ _ ?_); clear ag b1
  refine wp_seq ?_
  refine wp_block ?_
  refine sqB ak a [0] [] [(22, .bool u0.Fast)] ?_; intro d1 h; clear ak
  refine cd h (t := u0.Fast) (by kernel_rfl) (fun G => ?_) (fun G => ?_)
  ·
   have b5 := x.1 G; clear x
   refine rgH ?_; intro b7 al
   refine s1 h 25 (str (([48] : List UInt8) ++ (fnameS u0))) ?_; intro d2 am; clear h
   obtain ⟨b8, b9⟩ := b5
   refine sa am b8 ?_; intro d3 an; clear am
   refine s1 an 4 (str ((([48] : List UInt8) ++ (fnameS u0)) ++ ([49, 48, 49, 48] : List UInt8))) ?_; intro d4 ao; clear an
   refine nlH (al _ _ ?_); clear al b7
   refine ibn ?_
   refine thn ?_
   refine sqH ?_; intro ca ap
   refine bt ao a 2 [0] [] [(34, .slice ao1 u0.Data.length cap2)] ?_; intro d5 aq; clear ao
   obtain ⟨cb, cc⟩ := b9
   refine fc aq a (bof_fun u0.Data cb ao1 cap2 _ _ hs3 a.fz) ?_; intro d6 d7 ar i; clear aq a
   refine bt ar i 5 [] [] [(5, str (bofS u0.Data).1)] ?_; intro d8 au; clear ar
   refine nlH (ap _ _ ?_); clear ap ca
   refine sqH ?_; intro ce av
   refine bt au i 3 [] [] [(38, str ((([48] : List UInt8) ++ (fnameS u0)) ++ ([49, 48, 49, 48] : List UInt8))), (40, y6 (wu64 (sindexS fsizes (u0.Data.length : Int))))] ?_; intro d9 aw; clear au
   obtain ⟨cf, cg⟩ := cc
   refine fc aw i (bwrite_fun (wu64 (sindexS fsizes (u0.Data.length : Int))) 4 cf _ _ i.fz) ?_; intro ea eb ax ch; clear aw i
   obtain ⟨ci, cj⟩ := cg
   refine sa ax ci ?_; intro ec ay; clear ax
   refine s1 ay 43 (str (bofS u0.Data).1) ?_; intro ed az; clear ay
   obtain ⟨cl, cm⟩ := cj
   refine sa az cl ?_; intro ee aA; clear az
   refine s1 aA 2 (str ((((([48] : List UInt8) ++ (fnameS u0)) ++ ([49, 48, 49, 48] : List UInt8)) ++ (bwriteS (wu64 (sindexS fsizes (u0.Data.length : Int))) 4)) ++ (bofS u0.Data).1)) ?_; intro ef cn; clear aA
   refine nlH (av _ _ ?_); clear av ce
   refine wp_ret ?_
   refine ra1 cn (str ((((([48] : List UInt8) ++ (fnameS u0)) ++ ([49, 48, 49, 48] : List UInt8)) ++ (bwriteS (wu64 (sindexS fsizes (u0.Data.length : Int))) 4)) ++ (bofS u0.Data).1)) ?_
   exact ⟨(((([48] : List UInt8) ++ (fnameS u0)) ++ ([49, 48, 49, 48] : List UInt8)) ++ (bwriteS (wu64 (sindexS fsizes (u0.Data.length : Int))) 4)) ++ (bofS u0.Data).1, rfl, cm, ch.below⟩
  have y := x.2 G; clear x
  refine sqB h a [0] [] [(27, .bool u0.Long)] ?_; intro eg j; clear h
  refine cd j (t := u0.Long) (by kernel_rfl) (fun H => ?_) (fun H => ?_)
  ·
   have co := y.1 H; clear y
   refine rgH ?_; intro cp aB
   refine s1 j 30 (str (([48] : List UInt8) ++ (fnameS u0))) ?_; intro eh aC; clear j
   obtain ⟨cq, cr⟩ := co
   refine sa aC cq ?_; intro ei aD; clear aC
   refine s1 aD 4 (str ((([48] : List UInt8) ++ (fnameS u0)) ++ ([48, 48] : List UInt8))) ?_; intro ej aE; clear aD
   refine nlH (aB _ _ ?_); clear aB cp
   refine ibn ?_
   refine thn ?_
   refine sqH ?_; intro cs aF
   refine bt aE a 2 [0] [] [(34, .slice ao1 u0.Data.length cap2)] ?_; intro ek aG; clear aE
   obtain ⟨ct, cu⟩ := cr
   refine fc aG a (bof_fun u0.Data ct ao1 cap2 _ _ hs3 a.fz) ?_; intro el em aH k; clear aG a
   refine bt aH k 5 [] [] [(5, str (bofS u0.Data).1)] ?_; intro en aI; clear aH
   refine nlH (aF _ _ ?_); clear aF cs
   refine sqH ?_; intro cv aJ
   refine bt aI k 3 [] [] [(38, str ((([48] : List UInt8) ++ (fnameS u0)) ++ ([48, 48] : List UInt8))), (40, y6 (wu64 (sindexS fsizes (u0.Data.length : Int))))] ?_; intro eo aK; clear aI
   obtain ⟨cw, cx⟩ := cu
   refine fc aK k (bwrite_fun (wu64 (sindexS fsizes (u0.Data.length : Int))) 4 cw _ _ k.fz) ?_; intro ep eq aL cy; clear aK k
   obtain ⟨cz, cA⟩ := cx
   refine sa aL cz ?_; intro er aM; clear aL
   refine s1 aM 43 (str (bofS u0.Data).1) ?_; intro es aN; clear aM
   obtain ⟨cB, cC⟩ := cA
   refine sa aN cB ?_; intro et aO; clear aN
   refine s1 aO 2 (str ((((([48] : List UInt8) ++ (fnameS u0)) ++ ([48, 48] : List UInt8)) ++ (bwriteS (wu64 (sindexS fsizes (u0.Data.length : Int))) 4)) ++ (bofS u0.Data).1)) ?_; intro eu cD; clear aO
   refine nlH (aJ _ _ ?_); clear aJ cv
   refine wp_ret ?_
   refine ra1 cD (str ((((([48] : List UInt8) ++ (fnameS u0)) ++ ([48, 48] : List UInt8)) ++ (bwriteS (wu64 (sindexS fsizes (u0.Data.length : Int))) 4)) ++ (bofS u0.Data).1)) ?_
   exact ⟨(((([48] : List UInt8) ++ (fnameS u0)) ++ ([48, 48] : List UInt8)) ++ (bwriteS (wu64 (sindexS fsizes (u0.Data.length : Int))) 4)) ++ (bofS u0.Data).1, rfl, cC, cy.below⟩
  have cE := y.2 H; clear y
  refine rgH ?_; intro cF aP
  refine s1 j 20 (str (([48] : List UInt8) ++ (fnameS u0))) ?_; intro ev aQ; clear j
  obtain ⟨cG, cH⟩ := cE
  refine sa aQ cG ?_; intro ew aR; clear aQ
  refine s1 aR 4 (str ((([48] : List UInt8) ++ (fnameS u0)) ++ ([48] : List UInt8))) ?_; intro ex aS; clear aR
  refine nlH (aP _ _ ?_); clear aP cF
  refine ibn ?_
  refine thn ?_
  refine sqH ?_; intro cI aT
  refine bt aS a 2 [0] [] [(34, .slice ao1 u0.Data.length cap2)] ?_; intro ey aU; clear aS
  obtain ⟨cJ, cK⟩ := cH
  refine fc aU a (bof_fun u0.Data cJ ao1 cap2 _ _ hs3 a.fz) ?_; intro ez eA aV l; clear aU a
  refine bt aV l 5 [] [] [(5, str (bofS u0.Data).1)] ?_; intro eB aW; clear aV
  refine nlH (aT _ _ ?_); clear aT cI
  refine sqH ?_; intro cL aX
  refine bt aW l 3 [] [] [(38, str ((([48] : List UInt8) ++ (fnameS u0)) ++ ([48] : List UInt8))), (40, y6 (wu64 (sindexS fsizes (u0.Data.length : Int))))] ?_; intro eC aY; clear aW
  obtain ⟨cM, cN⟩ := cK
  refine fc aY l (bwrite_fun (wu64 (sindexS fsizes (u0.Data.length : Int))) 4 cM _ _ l.fz) ?_; intro eD eE aZ cO; clear aY l
  obtain ⟨cP, cQ⟩ := cN
  refine sa aZ cP ?_; intro eF a1; clear aZ
  refine s1 a1 43 (str (bofS u0.Data).1) ?_; intro eG a2; clear a1
  obtain ⟨cR, cT⟩ := cQ
  refine sa a2 cR ?_; intro eH a3; clear a2
  refine s1 a3 2 (str ((((([48] : List UInt8) ++ (fnameS u0)) ++ ([48] : List UInt8)) ++ (bwriteS (wu64 (sindexS fsizes (u0.Data.length : Int))) 4)) ++ (bofS u0.Data).1)) ?_; intro eI cU; clear a3
  refine nlH (aX _ _ ?_); clear aX cL
  refine wp_ret ?_
  refine ra1 cU (str ((((([48] : List UInt8) ++ (fnameS u0)) ++ ([48] : List UInt8)) ++ (bwriteS (wu64 (sindexS fsizes (u0.Data.length : Int))) 4)) ++ (bofS u0.Data).1)) ?_
  exact ⟨(((([48] : List UInt8) ++ (fnameS u0)) ++ ([48] : List UInt8)) ++ (bwriteS (wu64 (sindexS fsizes (u0.Data.length : Int))) 4)) ++ (bofS u0.Data).1, rfl, cT, cO.below⟩
 have cV := u.2 B; clear u
 refine wp_skip ?_
 refine thn ?_
 refine sqH ?_; intro cW a4
 refine l2 f c 17 0 0 6 (e24C u0 ao1 cap2) rfl rfl ?_; intro eJ a5; clear f
 obtain ⟨cX, cY⟩ := cV
 refine fc a5 c (fname_fun u0 cX ao1 cap2 _ _ hs3 c.fz) ?_; intro eK eL a6 b; clear a5 c
 obtain ⟨cZ, z⟩ := cY
 refine sa a6 cZ ?_; intro eM a8; clear a6
 refine s1 a8 4 (str (([48] : List UInt8) ++ (fnameS u0))) ?_; intro eN a9; clear a8
 refine nlH (a4 _ _ ?_); clear a4 cW
 refine wp_seq ?_
 refine wp_block ?_
 refine sqB a9 b [0] [] [(22, .bool u0.Fast)] ?_; intro eO m; clear a9
 refine cd m (t := u0.Fast) (by kernel_rfl) (fun I => ?_) (fun I => ?_)
 ·
  have c0 := z.1 I; clear z
  refine rgH ?_; intro c1 ba
  refine s1 m 25 (str (([48] : List UInt8) ++ (fnameS u0))) ?_; intro eP bb; clear m
  obtain ⟨c2, c3⟩ := c0
  refine sa bb c2 ?_; intro eQ bc; clear bb
  refine s1 bc 4 (str ((([48] : List UInt8) ++ (fnameS u0)) ++ ([49, 48, 49, 48] : List UInt8))) ?_; intro eR bd; clear bc
  refine nlH (ba _ _ ?_); clear ba c1
  refine ibn ?_
  refine thn ?_
  refine sqH ?_; intro c4 be
  refine bt bd b 2 [0] [] [(34, .slice ao1 u0.Data.length cap2)] ?_; intro eT bf; clear bd
  obtain ⟨c5, c6⟩ := c3
  refine fc bf b (bof_fun u0.Data c5 ao1 cap2 _ _ hs3 b.fz) ?_; intro eU eV bg n; clear bf b
  refine bt bg n 5 [] [] [(5, str (bofS u0.Data).1)] ?_; intro eW bh; clear bg
  refine nlH (be _ _ ?_); clear be c4
  refine sqH ?_; intro c7 bi
  refine bt bh n 3 [] [] [(38, str ((([48] : List UInt8) ++ (fnameS u0)) ++ ([49, 48, 49, 48] : List UInt8))), (40, y6 (wu64 u0.Size))] ?_; intro eX bj; clear bh
  obtain ⟨c8, c9⟩ := c6
  refine fc bj n (bwrite_fun (wu64 u0.Size) 4 c8 _ _ n.fz) ?_; intro eY eZ bk da; clear bj n
  obtain ⟨db, dc⟩ := c9
  refine sa bk db ?_; intro e0 bl; clear bk
  refine s1 bl 43 (str (bofS u0.Data).1) ?_; intro e1 bm; clear bl
  obtain ⟨dd, de⟩ := dc
  refine sa bm dd ?_; intro e2 bn; clear bm
  refine s1 bn 2 (str ((((([48] : List UInt8) ++ (fnameS u0)) ++ ([49, 48, 49, 48] : List UInt8)) ++ (bwriteS (wu64 u0.Size) 4)) ++ (bofS u0.Data).1)) ?_; intro e3 df; clear bn
  refine nlH (bi _ _ ?_); clear bi c7
  refine wp_ret ?_
  refine ra1 df (str ((((([48] : List UInt8) ++ (fnameS u0)) ++ ([49, 48, 49, 48] : List UInt8)) ++ (bwriteS (wu64 u0.Size) 4)) ++ (bofS u0.Data).1)) ?_
  exact ⟨(((([48] : List UInt8) ++ (fnameS u0)) ++ ([49, 48, 49, 48] : List UInt8)) ++ (bwriteS (wu64 u0.Size) 4)) ++ (bofS u0.Data).1, rfl, de, da.below⟩
 have A := z.2 I; clear z
 refine sqB m b [0] [] [(27, .bool u0.Long)] ?_; intro e4 o; clear m
 refine cd o (t := u0.Long) (by kernel_rfl) (fun J => ?_) (fun J => ?_)
 ·
  have dg := A.1 J; clear A
  refine rgH ?_; intro dh bo
  refine s1 o 30 (str (([48] : List UInt8) ++ (fnameS u0))) ?_; intro e5 bp; clear o
  obtain ⟨di, dj⟩ := dg
  refine sa bp di ?_; intro e6 bq; clear bp
  refine s1 bq 4 (str ((([48] : List UInt8) ++ (fnameS u0)) ++ ([48, 48] : List UInt8))) ?_; intro e7 br; clear bq
  refine nlH (bo _ _ ?_); clear bo dh
  refine ibn ?_
  refine thn ?_
  refine sqH ?_; intro dk bs
  refine bt br b 2 [0] [] [(34, .slice ao1 u0.Data.length cap2)] ?_; intro e8 bu; clear br
  obtain ⟨dl, dm⟩ := dj
  refine fc bu b (bof_fun u0.Data dl ao1 cap2 _ _ hs3 b.fz) ?_; intro e9 fa bv p; clear bu b
  refine bt bv p 5 [] [] [(5, str (bofS u0.Data).1)] ?_; intro fb bw; clear bv
  refine nlH (bs _ _ ?_); clear bs dk
  refine sqH ?_; intro dn bx
  refine bt bw p 3 [] [] [(38, str ((([48] : List UInt8) ++ (fnameS u0)) ++ ([48, 48] : List UInt8))), (40, y6 (wu64 u0.Size))] ?_; intro fd bz; clear bw
  obtain ⟨dp, dq⟩ := dm
  refine fc bz p (bwrite_fun (wu64 u0.Size) 4 dp _ _ p.fz) ?_; intro fe ff bA dr; clear bz p
  obtain ⟨ds, dt⟩ := dq
  refine sa bA ds ?_; intro fg bB; clear bA
  refine s1 bB 43 (str (bofS u0.Data).1) ?_; intro fh bC; clear bB
  obtain ⟨du, dv⟩ := dt
  refine sa bC du ?_; intro fi bD; clear bC
  refine s1 bD 2 (str ((((([48] : List UInt8) ++ (fnameS u0)) ++ ([48, 48] : List UInt8)) ++ (bwriteS (wu64 u0.Size) 4)) ++ (bofS u0.Data).1)) ?_; intro fj dw; clear bD
  refine nlH (bx _ _ ?_); clear bx dn
  refine wp_ret ?_
  refine ra1 dw (str ((((([48] : List UInt8) ++ (fnameS u0)) ++ ([48, 48] : List UInt8)) ++ (bwriteS (wu64 u0.Size) 4)) ++ (bofS u0.Data).1)) ?_
  exact ⟨(((([48] : List UInt8) ++ (fnameS u0)) ++ ([48, 48] : List UInt8)) ++ (bwriteS (wu64 u0.Size) 4)) ++ (bofS u0.Data).1, rfl, dv, dr.below⟩
 have dx := A.2 J; clear A
 refine rgH ?_; intro dy bE
 refine s1 o 20 (str (([48] : List UInt8) ++ (fnameS u0))) ?_; intro fk bF; clear o
 obtain ⟨dz, dA⟩ := dx
 refine sa bF dz ?_; intro fl bG; clear bF
 refine s1 bG 4 (str ((([48] : List UInt8) ++ (fnameS u0)) ++ ([48] : List UInt8))) ?_; intro fm bH; clear bG
 refine nlH (bE _ _ ?_); clear bE dy
 refine ibn ?_
 refine thn ?_
 refine sqH ?_; intro dB bI
 refine bt bH b 2 [0] [] [(34, .slice ao1 u0.Data.length cap2)] ?_; intro fn bJ; clear bH
 obtain ⟨dC, dD⟩ := dA
 refine fc bJ b (bof_fun u0.Data dC ao1 cap2 _ _ hs3 b.fz) ?_; intro fo fp bK q; clear bJ b
 refine bt bK q 5 [] [] [(5, str (bofS u0.Data).1)] ?_; intro fq bL; clear bK
 refine nlH (bI _ _ ?_); clear bI dB
 refine sqH ?_; intro dE bM
 refine bt bL q 3 [] [] [(38, str ((([48] : List UInt8) ++ (fnameS u0)) ++ ([48] : List UInt8))), (40, y6 (wu64 u0.Size))] ?_; intro fr bN; clear bL
 obtain ⟨dF, dG⟩ := dD
 refine fc bN q (bwrite_fun (wu64 u0.Size) 4 dF _ _ q.fz) ?_; intro fs ft bO dH; clear bN q
 obtain ⟨dI, dJ⟩ := dG
 refine sa bO dI ?_; intro fu bP; clear bO
 refine s1 bP 43 (str (bofS u0.Data).1) ?_; intro fv bQ; clear bP
 obtain ⟨dK, dL⟩ := dJ
 refine sa bQ dK ?_; intro fw bR; clear bQ
 refine s1 bR 2 (str ((((([48] : List UInt8) ++ (fnameS u0)) ++ ([48] : List UInt8)) ++ (bwriteS (wu64 u0.Size) 4)) ++ (bofS u0.Data).1)) ?_; intro fx dM; clear bR
 refine nlH (bM _ _ ?_); clear bM dE
 refine wp_ret ?_
 refine ra1 dM (str ((((([48] : List UInt8) ++ (fnameS u0)) ++ ([48] : List UInt8)) ++ (bwriteS (wu64 u0.Size) 4)) ++ (bofS u0.Data).1)) ?_
 exact ⟨(((([48] : List UInt8) ++ (fnameS u0)) ++ ([48] : List UInt8)) ++ (bwriteS (wu64 u0.Size) 4)) ++ (bofS u0.Data).1, rfl, dL, dH.below⟩

theorem fName_walk (u0 : Frame) (ao1 : Option Addr) (cap2 : Nat) (Z : Fz) (w : World) (hs3 : SlR t8 Z ao1 cap2 u0.Data) (hZ : Z.on w) {K : ((List UInt8) × Int) → Prop} (hp : fName_vc u0 K) : Calls Tryz.prog 15 #[.agg #[i6 u0.ID, .bool u0.Long, .bool u0.Fast, .bool u0.Remote, i6 u0.Size, .slice ao1 u0.Data.length cap2]] w fun e w' => ∃ r : (List UInt8) × Int, e = .returned (.tuple #[str r.1, i6 r.2]) ∧ K r ∧ Below w.heap.size w w' := by
 refine enter0 Tryz.func15 rfl rfl (by kernel_rfl) ?_; intro F g; have h := Mem.start w Z hZ; have G := Fz.le.refl Z
 have d := hp (hs3.small); clear hp
 refine sqH ?_; intro v i
 refine nw g h pb (e24C u0 ao1 cap2) 24 ?_; intro H I J j b; clear g h
 refine bt j b 2 [] [] [] ?_; intro L k; clear j
 refine nlH (i _ _ ?_); clear i v
 refine wp_seq ?_
 refine sqH ?_; intro x l
 refine l2 k b 5 0 0 6 (e24C u0 ao1 cap2) rfl rfl ?_; intro M m; clear k
 refine fc m b (fcheckfr_fun u0 ao1 cap2 _ _ hs3 b.fz) ?_; intro N O n a; clear m b
 refine s1 n 4 (i6 (fcheckfr u0)) ?_; intro P o; clear n
 refine nlH (l _ _ ?_); clear l x
 refine sqB o a [] [] [(8, .bool ((fcheckfr u0) != 0))] ?_; intro Q c; clear o
 refine cd c (t := (fcheckfr u0) != 0) (by kernel_rfl) (fun f => ?_) (fun f => ?_)
 ·
  have y := d.1 f; clear d
  refine sqB c a [] [] [(2, str []), (3, i6 (fcheckfr u0))] ?_; intro R z; clear c
  refine wp_ret ?_
  refine thr ?_
  refine ra2 z (.tuple #[str [], i6 (fcheckfr u0)]) ?_
  exact ⟨([], (fcheckfr u0)), rfl, y, a.below⟩
 have A := d.2 f; clear d
 refine wp_skip ?_
 refine thn ?_
 refine sqH ?_; intro B p
 refine l2 c a 10 0 0 6 (e24C u0 ao1 cap2) rfl rfl ?_; intro S q; clear c
 obtain ⟨C, D⟩ := A
 refine fc q a (fname_fun u0 C ao1 cap2 _ _ hs3 a.fz) ?_; intro T U s u; clear q a
 refine bt s u 2 [] [] [(2, str (fnameS u0)), (3, i6 0)] ?_; intro V E; clear s
 refine nlH (p _ _ ?_); clear p B
 refine wp_ret ?_
 refine ra2 E (.tuple #[str (fnameS u0), i6 0]) ?_
 exact ⟨((fnameS u0), 0), rfl, D, u.below⟩

theorem fSame_walk (u0 : Frame) (u1 : Frame) (ao1 : Option Addr) (cap2 : Nat) (ao4 : Option Addr) (cap5 : Nat) (Z : Fz) (w : World) (hs3 : SlR t8 Z ao1 cap2 u0.Data) (hs6 : SlR t8 Z ao4 cap5 u1.Data) (hZ : Z.on w) {K : Bool → Prop} (hp : fSame_vc u0 u1 K) : Calls Tryz.prog 19 #[.agg #[i6 u0.ID, .bool u0.Long, .bool u0.Fast, .bool u0.Remote, i6 u0.Size, .slice ao1 u0.Data.length cap2], .agg #[i6 u1.ID, .bool u1.Long, .bool u1.Fast, .bool u1.Remote, i6 u1.Size, .slice ao4 u1.Data.length cap5]] w fun e w' => ∃ r : Bool, e = .returned (.bool r) ∧ K r ∧ Below w.heap.size w w' := by
 refine enter0 Tryz.func19 rfl rfl (by kernel_rfl) ?_; intro a0 z; have A := Mem.start w Z hZ; have av := Fz.le.refl Z
 have B := hp (hs3.small); clear hp
 have ao := B (hs6.small); clear B
 refine sqH ?_; intro ap C
 refine nw z A pb (e24C u0 ao1 cap2) 24 ?_; intro c aw ax D E; clear z A
 refine nw D E pb (e24C u1 ao4 cap5) 24 ?_; intro d ay az F a; clear D E
 refine s1 F 4 (.bool false) ?_; intro aA G; clear F
 refine nlH (C _ _ ?_); clear C ap
 refine sqH ?_; intro aq H
 refine s1 G 5 (pt c 0) ?_; intro aB I; clear G
 refine l1 I a 6 1 0 (i6 u0.ID) rfl rfl ?_; intro aC J; clear I
 refine s1 J 7 (pt d 0) ?_; intro aD L; clear J
 refine l1 L a 8 0 0 (i6 u1.ID) rfl rfl ?_; intro aE M; clear L
 refine s1 M 9 (.bool (u0.ID == u1.ID)) ?_; intro aF N; clear M
 refine s1 N 10 (.bool (u0.ID == u1.ID)) ?_; intro aG O; clear N
 have P := O.atom ((u0.ID == u1.ID) == true) (by kernel_rfl); clear O
 refine gp P 11 0 [] (u0.ID == u1.ID) (pt c 1) rfl rfl ?_; intro aH f; clear P
 refine gd f (.bool u0.Long) (m := 0) (cj := []) (bj := u0.ID == u1.ID) rfl rfl (by kernel_rfl) rfl (by kernel_rfl) (by kernel_rfl) (by kernel_rfl) (fun hg => ld f a 1 (g := [0]) (b := c) (off := 1) (cs := (e24C u0 ao1 cap2)) (ty := 24) rfl (by kernel_rfl) (by kernel_rfl) (by kernel_rfl) (by kernel_rfl) hg) ?_; intro aI Q; clear f
 refine gp Q 13 0 [] (u0.ID == u1.ID) (pt d 1) rfl rfl ?_; intro aJ h; clear Q
 refine gd h (.bool u1.Long) (m := 0) (cj := []) (bj := u0.ID == u1.ID) rfl rfl (by kernel_rfl) rfl (by kernel_rfl) (by kernel_rfl) (by kernel_rfl) (fun hg => ld h a 0 (g := [0]) (b := d) (off := 1) (cs := (e24C u1 ao4 cap5)) (ty := 24) rfl (by kernel_rfl) (by kernel_rfl) (by kernel_rfl) (by kernel_rfl) hg) ?_; intro aK R; clear h
 refine gp R 15 0 [] (u0.ID == u1.ID) (.bool (u0.Long == u1.Long)) rfl rfl ?_; intro aL i; clear R
 refine st i (.bool ((u0.ID == u1.ID) && (u0.Long == u1.Long))) (nog rfl _) rfl (by kernel_rfl) (pk_and i (g := []) (m := 0) (b := u0.ID == u1.ID) (v := u0.Long == u1.Long) rfl (by kernel_rfl) (by kernel_rfl) (by kernel_rfl) rfl) ?_; intro aM S; clear i
 refine s1 S 17 (.bool ((u0.ID == u1.ID) && (u0.Long == u1.Long))) ?_; intro aN T; clear S
 have U := T.atom (((u0.ID == u1.ID) && (u0.Long == u1.Long)) == true) (by kernel_rfl); clear T
 refine gp U 18 1 [] ((u0.ID == u1.ID) && (u0.Long == u1.Long)) (pt c 2) rfl rfl ?_; intro aO j; clear U
 refine gd j (.bool u0.Fast) (m := 1) (cj := []) (bj := (u0.ID == u1.ID) && (u0.Long == u1.Long)) rfl rfl (by kernel_rfl) rfl (by kernel_rfl) (by kernel_rfl) (by kernel_rfl) (fun hg => ld j a 1 (g := [1]) (b := c) (off := 2) (cs := (e24C u0 ao1 cap2)) (ty := 24) rfl (by kernel_rfl) (by kernel_rfl) (by kernel_rfl) (by kernel_rfl) hg) ?_; intro aP V; clear j
 refine gp V 20 1 [] ((u0.ID == u1.ID) && (u0.Long == u1.Long)) (pt d 2) rfl rfl ?_; intro aQ k; clear V
 refine gd k (.bool u1.Fast) (m := 1) (cj := []) (bj := (u0.ID == u1.ID) && (u0.Long == u1.Long)) rfl rfl (by kernel_rfl) rfl (by kernel_rfl) (by kernel_rfl) (by kernel_rfl) (fun hg => ld k a 0 (g := [1]) (b := d) (off := 2) (cs := (e24C u1 ao4 cap5)) (ty := 24) rfl (by kernel_rfl) (by kernel_rfl) (by kernel_rfl) (by kernel_rfl) hg) ?_; intro aR W; clear k
 refine gp W 22 1 [] ((u0.ID == u1.ID) && (u0.Long == u1.Long)) (.bool (u0.Fast == u1.Fast)) rfl rfl ?_; intro aS l; clear W
 refine st l (.bool (((u0.ID == u1.ID) && (u0.Long == u1.Long)) && (u0.Fast == u1.Fast))) (nog rfl _) rfl (by kernel_rfl) (pk_and l (g := []) (m := 1) (b := (u0.ID == u1.ID) && (u0.Long == u1.Long)) (v := u0.Fast == u1.Fast) rfl (by kernel_rfl) (by kernel_rfl) (by kernel_rfl) rfl) ?_; intro aT X; clear l
 refine s1 X 24 (.bool (((u0.ID == u1.ID) && (u0.Long == u1.Long)) && (u0.Fast == u1.Fast))) ?_; intro aU Y; clear X
 have aa := Y.atom ((((u0.ID == u1.ID) && (u0.Long == u1.Long)) && (u0.Fast == u1.Fast)) == true) (by kernel_rfl); clear Y
 refine gp aa 25 2 [] (((u0.ID == u1.ID) && (u0.Long == u1.Long)) && (u0.Fast == u1.Fast)) (pt c 3) rfl rfl ?_; intro aV n; clear aa
 refine gd n (.bool u0.Remote) (m := 2) (cj := []) (bj := ((u0.ID == u1.ID) && (u0.Long == u1.Long)) && (u0.Fast == u1.Fast)) rfl rfl (by kernel_rfl) rfl (by kernel_rfl) (by kernel_rfl) (by kernel_rfl) (fun hg => ld n a 1 (g := [2]) (b := c) (off := 3) (cs := (e24C u0 ao1 cap2)) (ty := 24) rfl (by kernel_rfl) (by kernel_rfl) (by kernel_rfl) (by kernel_rfl) hg) ?_; intro aW ab; clear n
 refine gp ab 27 2 [] (((u0.ID == u1.ID) && (u0.Long == u1.Long)) && (u0.Fast == u1.Fast)) (pt d 3) rfl rfl ?_; intro aX o; clear ab
 refine gd o (.bool u1.Remote) (m := 2) (cj := []) (bj := ((u0.ID == u1.ID) && (u0.Long == u1.Long)) && (u0.Fast == u1.Fast)) rfl rfl (by kernel_rfl) rfl (by kernel_rfl) (by kernel_rfl) (by kernel_rfl) (fun hg => ld o a 0 (g := [2]) (b := d) (off := 3) (cs := (e24C u1 ao4 cap5)) (ty := 24) rfl (by kernel_rfl) (by kernel_rfl) (by kernel_rfl) (by kernel_rfl) hg) ?_; intro aY ac; clear o
 refine gp ac 29 2 [] (((u0.ID == u1.ID) && (u0.Long == u1.Long)) && (u0.Fast == u1.Fast)) (.bool (u0.Remote == u1.Remote)) rfl rfl ?_; intro aZ p; clear ac
 refine st p (.bool ((((u0.ID == u1.ID) && (u0.Long == u1.Long)) && (u0.Fast == u1.Fast)) && (u0.Remote == u1.Remote))) (nog rfl _) rfl (by kernel_rfl) (pk_and p (g := []) (m := 2) (b := ((u0.ID == u1.ID) && (u0.Long == u1.Long)) && (u0.Fast == u1.Fast)) (v := u0.Remote == u1.Remote) rfl (by kernel_rfl) (by kernel_rfl) (by kernel_rfl) rfl) ?_; intro a1 ad; clear p
 refine s1 ad 31 (.bool ((((u0.ID == u1.ID) && (u0.Long == u1.Long)) && (u0.Fast == u1.Fast)) && (u0.Remote == u1.Remote))) ?_; intro a2 ae; clear ad
 have af := ae.atom (((((u0.ID == u1.ID) && (u0.Long == u1.Long)) && (u0.Fast == u1.Fast)) && (u0.Remote == u1.Remote)) == true) (by kernel_rfl); clear ae
 refine gp af 32 3 [] ((((u0.ID == u1.ID) && (u0.Long == u1.Long)) && (u0.Fast == u1.Fast)) && (u0.Remote == u1.Remote)) (pt c 4) rfl rfl ?_; intro a3 q; clear af
 refine gd q (i6 u0.Size) (m := 3) (cj := []) (bj := (((u0.ID == u1.ID) && (u0.Long == u1.Long)) && (u0.Fast == u1.Fast)) && (u0.Remote == u1.Remote)) rfl rfl (by kernel_rfl) rfl (by kernel_rfl) (by kernel_rfl) (by kernel_rfl) (fun hg => ld q a 1 (g := [3]) (b := c) (off := 4) (cs := (e24C u0 ao1 cap2)) (ty := 24) rfl (by kernel_rfl) (by kernel_rfl) (by kernel_rfl) (by kernel_rfl) hg) ?_; intro a4 ag; clear q
 refine gp ag 34 3 [] ((((u0.ID == u1.ID) && (u0.Long == u1.Long)) && (u0.Fast == u1.Fast)) && (u0.Remote == u1.Remote)) (pt d 4) rfl rfl ?_; intro a5 s; clear ag
 refine gd s (i6 u1.Size) (m := 3) (cj := []) (bj := (((u0.ID == u1.ID) && (u0.Long == u1.Long)) && (u0.Fast == u1.Fast)) && (u0.Remote == u1.Remote)) rfl rfl (by kernel_rfl) rfl (by kernel_rfl) (by kernel_rfl) (by kernel_rfl) (fun hg => ld s a 0 (g := [3]) (b := d) (off := 4) (cs := (e24C u1 ao4 cap5)) (ty := 24) rfl (by kernel_rfl) (by kernel_rfl) (by kernel_rfl) (by kernel_rfl) hg) ?_; intro a6 ah; clear s
 refine gp ah 36 3 [] ((((u0.ID == u1.ID) && (u0.Long == u1.Long)) && (u0.Fast == u1.Fast)) && (u0.Remote == u1.Remote)) (.bool (u0.Size == u1.Size)) rfl rfl ?_; intro a7 t; clear ah
 refine st t (.bool (((((u0.ID == u1.ID) && (u0.Long == u1.Long)) && (u0.Fast == u1.Fast)) && (u0.Remote == u1.Remote)) && (u0.Size == u1.Size))) (nog rfl _) rfl (by kernel_rfl) (pk_and t (g := []) (m := 3) (b := (((u0.ID == u1.ID) && (u0.Long == u1.Long)) && (u0.Fast == u1.Fast)) && (u0.Remote == u1.Remote)) (v := u0.Size == u1.Size) rfl (by kernel_rfl) (by kernel_rfl) (by kernel_rfl) rfl) ?_; intro a8 ai; clear t
 refine s1 ai 38 (.bool (((((u0.ID == u1.ID) && (u0.Long == u1.Long)) && (u0.Fast == u1.Fast)) && (u0.Remote == u1.Remote)) && (u0.Size == u1.Size))) ?_; intro a9 aj; clear ai
 have ak := aj.atom ((((((u0.ID == u1.ID) && (u0.Long == u1.Long)) && (u0.Fast == u1.Fast)) && (u0.Remote == u1.Remote)) && (u0.Size == u1.Size)) == true) (by kernel_rfl); clear aj
 refine gp ak 39 4 [] (((((u0.ID == u1.ID) && (u0.Long == u1.Long)) && (u0.Fast == u1.Fast)) && (u0.Remote == u1.Remote)) && (u0.Size == u1.Size)) (pt c 5) rfl rfl ?_; intro ba u; clear ak
 refine gd u (.slice ao1 u0.Data.length cap2) (m := 4) (cj := []) (bj := ((((u0.ID == u1.ID) && (u0.Long == u1.Long)) && (u0.Fast == u1.Fast)) && (u0.Remote == u1.Remote)) && (u0.Size == u1.Size)) rfl rfl (by kernel_rfl) rfl (by kernel_rfl) (by kernel_rfl) (by kernel_rfl) (fun hg => ld u a 1 (g := [4]) (b := c) (off := 5) (cs := (e24C u0 ao1 cap2)) (ty := 24) rfl (by kernel_rfl) (by kernel_rfl) (by kernel_rfl) (by kernel_rfl) hg) ?_; intro bb al; clear u
 refine gp al 41 4 [] (((((u0.ID == u1.ID) && (u0.Long == u1.Long)) && (u0.Fast == u1.Fast)) && (u0.Remote == u1.Remote)) && (u0.Size == u1.Size)) (pt d 5) rfl rfl ?_; intro bc x; clear al
 refine gd x (.slice ao4 u1.Data.length cap5) (m := 4) (cj := []) (bj := ((((u0.ID == u1.ID) && (u0.Long == u1.Long)) && (u0.Fast == u1.Fast)) && (u0.Remote == u1.Remote)) && (u0.Size == u1.Size)) rfl rfl (by kernel_rfl) rfl (by kernel_rfl) (by kernel_rfl) (by kernel_rfl) (fun hg => ld x a 0 (g := [4]) (b := d) (off := 5) (cs := (e24C u1 ao4 cap5)) (ty := 24) rfl (by kernel_rfl) (by kernel_rfl) (by kernel_rfl) (by kernel_rfl) hg) ?_; intro bd am; clear x
 refine gcl am a (.bool (beqS u0.Data u1.Data)) 52 #[.slice ao1 u0.Data.length cap2, .slice ao4 u1.Data.length cap5] (m := 4) (cj := []) (bj := ((((u0.ID == u1.ID) && (u0.Long == u1.Long)) && (u0.Fast == u1.Fast)) && (u0.Remote == u1.Remote)) && (u0.Size == u1.Size)) rfl rfl (by kernel_rfl) rfl (by kernel_rfl) (by kernel_rfl) (by kernel_rfl) (fun _ => by kernel_rfl) (fun hg => beq_fun u0.Data u1.Data ao1 cap2 ao4 cap5 _ _ hs3 hs6 a.fz) ?_; intro be bf y ar; clear am a
 refine st y (.bool ((((((u0.ID == u1.ID) && (u0.Long == u1.Long)) && (u0.Fast == u1.Fast)) && (u0.Remote == u1.Remote)) && (u0.Size == u1.Size)) && (beqS u0.Data u1.Data))) (nog rfl _) rfl (by kernel_rfl) (pk_and y (g := []) (m := 4) (b := ((((u0.ID == u1.ID) && (u0.Long == u1.Long)) && (u0.Fast == u1.Fast)) && (u0.Remote == u1.Remote)) && (u0.Size == u1.Size)) (v := (beqS u0.Data u1.Data)) rfl (by kernel_rfl) (by kernel_rfl) (by kernel_rfl) rfl) ?_; intro bg an; clear y
 refine s1 an 4 (.bool ((((((u0.ID == u1.ID) && (u0.Long == u1.Long)) && (u0.Fast == u1.Fast)) && (u0.Remote == u1.Remote)) && (u0.Size == u1.Size)) && (beqS u0.Data u1.Data))) ?_; intro bh au; clear an
 refine nlH (H _ _ ?_); clear H aq
 refine wp_ret ?_
 refine ra1 au (.bool ((((((u0.ID == u1.ID) && (u0.Long == u1.Long)) && (u0.Fast == u1.Fast)) && (u0.Remote == u1.Remote)) && (u0.Size == u1.Size)) && (beqS u0.Data u1.Data))) ?_
 exact ⟨(((((u0.ID == u1.ID) && (u0.Long == u1.Long)) && (u0.Fast == u1.Fast)) && (u0.Remote == u1.Remote)) && (u0.Size == u1.Size)) && (beqS u0.Data u1.Data), rfl, ao, ar.below⟩

theorem rSame_walk (u0 : Frame) (u1 : Frame) (ao1 : Option Addr) (cap2 : Nat) (ao4 : Option Addr) (cap5 : Nat) (Z : Fz) (w : World) (hs3 : SlR t8 Z ao1 cap2 u0.Data) (hs6 : SlR t8 Z ao4 cap5 u1.Data) (hZ : Z.on w) {K : Bool → Prop} (hp : rSame_vc u0 u1 K) : Calls Tryz.prog 13 #[.agg #[i6 u0.ID, .bool u0.Long, .bool u0.Fast, .bool u0.Remote, i6 u0.Size, .slice ao1 u0.Data.length cap2], .agg #[i6 u1.ID, .bool u1.Long, .bool u1.Fast, .bool u1.Remote, i6 u1.Size, .slice ao4 u1.Data.length cap5]] w fun e w' => ∃ r : Bool, e = .returned (.bool r) ∧ K r ∧ Below w.heap.size w w' := by
 refine enter0 Tryz.func13 rfl rfl (by kernel_rfl) ?_; intro a0 z; have A := Mem.start w Z hZ; have av := Fz.le.refl Z
 have B := hp (hs3.small); clear hp
 have ao := B (hs6.small); clear B
 refine sqH ?_; intro ap C
 refine nw z A pb (e24C u0 ao1 cap2) 24 ?_; intro c aw ax D E; clear z A
 refine nw D E pb (e24C u1 ao4 cap5) 24 ?_; intro d ay az F a; clear D E
 refine s1 F 4 (.bool false) ?_; intro aA G; clear F
 refine nlH (C _ _ ?_); clear C ap
 refine sqH ?_; intro aq H
 refine s1 G 5 (pt c 0) ?_; intro aB I; clear G
 refine l1 I a 6 1 0 (i6 u0.ID) rfl rfl ?_; intro aC J; clear I
 refine s1 J 7 (pt d 0) ?_; intro aD L; clear J
 refine l1 L a 8 0 0 (i6 u1.ID) rfl rfl ?_; intro aE M; clear L
 refine s1 M 9 (.bool (u0.ID == u1.ID)) ?_; intro aF N; clear M
 refine s1 N 10 (.bool (u0.ID == u1.ID)) ?_; intro aG O; clear N
 have P := O.atom ((u0.ID == u1.ID) == true) (by kernel_rfl); clear O
 refine gp P 11 0 [] (u0.ID == u1.ID) (pt c 1) rfl rfl ?_; intro aH f; clear P
 refine gd f (.bool u0.Long) (m := 0) (cj := []) (bj := u0.ID == u1.ID) rfl rfl (by kernel_rfl) rfl (by kernel_rfl) (by kernel_rfl) (by kernel_rfl) (fun hg => ld f a 1 (g := [0]) (b := c) (off := 1) (cs := (e24C u0 ao1 cap2)) (ty := 24) rfl (by kernel_rfl) (by kernel_rfl) (by kernel_rfl) (by kernel_rfl) hg) ?_; intro aI Q; clear f
 refine gp Q 13 0 [] (u0.ID == u1.ID) (pt d 1) rfl rfl ?_; intro aJ h; clear Q
 refine gd h (.bool u1.Long) (m := 0) (cj := []) (bj := u0.ID == u1.ID) rfl rfl (by kernel_rfl) rfl (by kernel_rfl) (by kernel_rfl) (by kernel_rfl) (fun hg => ld h a 0 (g := [0]) (b := d) (off := 1) (cs := (e24C u1 ao4 cap5)) (ty := 24) rfl (by kernel_rfl) (by kernel_rfl) (by kernel_rfl) (by kernel_rfl) hg) ?_; intro aK R; clear h
 refine gp R 15 0 [] (u0.ID == u1.ID) (.bool (u0.Long == u1.Long)) rfl rfl ?_; intro aL i; clear R
 refine st i (.bool ((u0.ID == u1.ID) && (u0.Long == u1.Long))) (nog rfl _) rfl (by kernel_rfl) (pk_and i (g := []) (m := 0) (b := u0.ID == u1.ID) (v := u0.Long == u1.Long) rfl (by kernel_rfl) (by kernel_rfl) (by kernel_rfl) rfl) ?_; intro aM S; clear i
 refine s1 S 17 (.bool ((u0.ID == u1.ID) && (u0.Long == u1.Long))) ?_; intro aN T; clear S
 have U := T.atom (((u0.ID == u1.ID) && (u0.Long == u1.Long)) == true) (by kernel_rfl); clear T
 refine gp U 18 1 [] ((u0.ID == u1.ID) && (u0.Long == u1.Long)) (pt c 2) rfl rfl ?_; intro aO j; clear U
 refine gd j (.bool u0.Fast) (m := 1) (cj := []) (bj := (u0.ID == u1.ID) && (u0.Long == u1.Long)) rfl rfl (by kernel_rfl) rfl (by kernel_rfl) (by kernel_rfl) (by kernel_rfl) (fun hg => ld j a 1 (g := [1]) (b := c) (off := 2) (cs := (e24C u0 ao1 cap2)) (ty := 24) rfl (by kernel_rfl) (by kernel_rfl) (by kernel_rfl) (by kernel_rfl) hg) ?_; intro aP V; clear j
 refine gp V 20 1 [] ((u0.ID == u1.ID) && (u0.Long == u1.Long)) (pt d 2) rfl rfl ?_; intro aQ k; clear V
 refine gd k (.bool u1.Fast) (m := 1) (cj := []) (bj := (u0.ID == u1.ID) && (u0.Long == u1.Long)) rfl rfl (by kernel_rfl) rfl (by kernel_rfl) (by kernel_rfl) (by kernel_rfl) (fun hg => ld k a 0 (g := [1]) (b := d) (off := 2) (cs := (e24C u1 ao4 cap5)) (ty := 24) rfl (by kernel_rfl) (by kernel_rfl) (by kernel_rfl) (by kernel_rfl) hg) ?_; intro aR W; clear k
 refine gp W 22 1 [] ((u0.ID == u1.ID) && (u0.Long == u1.Long)) (.bool (u0.Fast == u1.Fast)) rfl rfl ?_; intro aS l; clear W
 refine st l (.bool (((u0.ID == u1.ID) && (u0.Long == u1.Long)) && (u0.Fast == u1.Fast))) (nog rfl _) rfl (by kernel_rfl) (pk_and l (g := []) (m := 1) (b := (u0.ID == u1.ID) && (u0.Long == u1.Long)) (v := u0.Fast == u1.Fast) rfl (by kernel_rfl) (by kernel_rfl) (by kernel_rfl) rfl) ?_; intro aT X; clear l
 refine s1 X 24 (.bool (((u0.ID == u1.ID) && (u0.Long == u1.Long)) && (u0.Fast == u1.Fast))) ?_; intro aU Y; clear X
 have aa := Y.atom ((((u0.ID == u1.ID) && (u0.Long == u1.Long)) && (u0.Fast == u1.Fast)) == true) (by kernel_rfl); clear Y
 refine gp aa 25 2 [] (((u0.ID == u1.ID) && (u0.Long == u1.Long)) && (u0.Fast == u1.Fast)) (pt c 3) rfl rfl ?_; intro aV n; clear aa
 refine gd n (.bool u0.Remote) (m := 2) (cj := []) (bj := ((u0.ID == u1.ID) && (u0.Long == u1.Long)) && (u0.Fast == u1.Fast)) rfl rfl (by kernel_rfl) rfl (by kernel_rfl) (by kernel_rfl) (by kernel_rfl) (fun hg => ld n a 1 (g := [2]) (b := c) (off := 3) (cs := (e24C u0 ao1 cap2)) (ty := 24) rfl (by kernel_rfl) (by kernel_rfl) (by kernel_rfl) (by kernel_rfl) hg) ?_; intro aW ab; clear n
 refine gp ab 27 2 [] (((u0.ID == u1.ID) && (u0.Long == u1.Long)) && (u0.Fast == u1.Fast)) (pt d 3) rfl rfl ?_; intro aX o; clear ab
 refine gd o (.bool u1.Remote) (m := 2) (cj := []) (bj := ((u0.ID == u1.ID) && (u0.Long == u1.Long)) && (u0.Fast == u1.Fast)) rfl rfl (by kernel_rfl) rfl (by kernel_rfl) (by kernel_rfl) (by kernel_rfl) (fun hg => ld o a 0 (g := [2]) (b := d) (off := 3) (cs := (e24C u1 ao4 cap5)) (ty := 24) rfl (by kernel_rfl) (by kernel_rfl) (by kernel_rfl) (by kernel_rfl) hg) ?_; intro aY ac; clear o
 refine gp ac 29 2 [] (((u0.ID == u1.ID) && (u0.Long == u1.Long)) && (u0.Fast == u1.Fast)) (.bool (u0.Remote == u1.Remote)) rfl rfl ?_; intro aZ p; clear ac
 refine st p (.bool ((((u0.ID == u1.ID) && (u0.Long == u1.Long)) && (u0.Fast == u1.Fast)) && (u0.Remote == u1.Remote))) (nog rfl _) rfl (by kernel_rfl) (pk_and p (g := []) (m := 2) (b := ((u0.ID == u1.ID) && (u0.Long == u1.Long)) && (u0.Fast == u1.Fast)) (v := u0.Remote == u1.Remote) rfl (by kernel_rfl) (by kernel_rfl) (by kernel_rfl) rfl) ?_; intro a1 ad; clear p
 refine s1 ad 31 (.bool ((((u0.ID == u1.ID) && (u0.Long == u1.Long)) && (u0.Fast == u1.Fast)) && (u0.Remote == u1.Remote))) ?_; intro a2 ae; clear ad
 have af := ae.atom (((((u0.ID == u1.ID) && (u0.Long == u1.Long)) && (u0.Fast == u1.Fast)) && (u0.Remote == u1.Remote)) == true) (by kernel_rfl); clear ae
 refine gp af 32 3 [] ((((u0.ID == u1.ID) && (u0.Long == u1.Long)) && (u0.Fast == u1.Fast)) && (u0.Remote == u1.Remote)) (pt c 4) rfl rfl ?_; intro a3 q; clear af
 refine gd q (i6 u0.Size) (m := 3) (cj := []) (bj := (((u0.ID == u1.ID) && (u0.Long == u1.Long)) && (u0.Fast == u1.Fast)) && (u0.Remote == u1.Remote)) rfl rfl (by kernel_rfl) rfl (by kernel_rfl) (by kernel_rfl) (by kernel_rfl) (fun hg => ld q a 1 (g := [3]) (b := c) (off := 4) (cs := (e24C u0 ao1 cap2)) (ty := 24) rfl (by kernel_rfl) (by kernel_rfl) (by kernel_rfl) (by kernel_rfl) hg) ?_; intro a4 ag; clear q
 refine gp ag 34 3 [] ((((u0.ID == u1.ID) && (u0.Long == u1.Long)) && (u0.Fast == u1.Fast)) && (u0.Remote == u1.Remote)) (pt d 4) rfl rfl ?_; intro a5 s; clear ag
 refine gd s (i6 u1.Size) (m := 3) (cj := []) (bj := (((u0.ID == u1.ID) && (u0.Long == u1.Long)) && (u0.Fast == u1.Fast)) && (u0.Remote == u1.Remote)) rfl rfl (by kernel_rfl) rfl (by kernel_rfl) (by kernel_rfl) (by kernel_rfl) (fun hg => ld s a 0 (g := [3]) (b := d) (off := 4) (cs := (e24C u1 ao4 cap5)) (ty := 24) rfl (by kernel_rfl) (by kernel_rfl) (by kernel_rfl) (by kernel_rfl) hg) ?_; intro a6 ah; clear s
 refine gp ah 36 3 [] ((((u0.ID == u1.ID) && (u0.Long == u1.Long)) && (u0.Fast == u1.Fast)) && (u0.Remote == u1.Remote)) (.bool (u0.Size == u1.Size)) rfl rfl ?_; intro a7 t; clear ah
 refine st t (.bool (((((u0.ID == u1.ID) && (u0.Long == u1.Long)) && (u0.Fast == u1.Fast)) && (u0.Remote == u1.Remote)) && (u0.Size == u1.Size))) (nog rfl _) rfl (by kernel_rfl) (pk_and t (g := []) (m := 3) (b := (((u0.ID == u1.ID) && (u0.Long == u1.Long)) && (u0.Fast == u1.Fast)) && (u0.Remote == u1.Remote)) (v := u0.Size == u1.Size) rfl (by kernel_rfl) (by kernel_rfl) (by kernel_rfl) rfl) ?_; intro a8 ai; clear t
 refine s1 ai 38 (.bool (((((u0.ID == u1.ID) && (u0.Long == u1.Long)) && (u0.Fast == u1.Fast)) && (u0.Remote == u1.Remote)) && (u0.Size == u1.Size))) ?_; intro a9 aj; clear ai
 have ak := aj.atom ((((((u0.ID == u1.ID) && (u0.Long == u1.Long)) && (u0.Fast == u1.Fast)) && (u0.Remote == u1.Remote)) && (u0.Size == u1.Size)) == true) (by kernel_rfl); clear aj
 refine gp ak 39 4 [] (((((u0.ID == u1.ID) && (u0.Long == u1.Long)) && (u0.Fast == u1.Fast)) && (u0.Remote == u1.Remote)) && (u0.Size == u1.Size)) (pt c 5) rfl rfl ?_; intro ba u; clear ak
 refine gd u (.slice ao1 u0.Data.length cap2) (m := 4) (cj := []) (bj := ((((u0.ID == u1.ID) && (u0.Long == u1.Long)) && (u0.Fast == u1.Fast)) && (u0.Remote == u1.Remote)) && (u0.Size == u1.Size)) rfl rfl (by kernel_rfl) rfl (by kernel_rfl) (by kernel_rfl) (by kernel_rfl) (fun hg => ld u a 1 (g := [4]) (b := c) (off := 5) (cs := (e24C u0 ao1 cap2)) (ty := 24) rfl (by kernel_rfl) (by kernel_rfl) (by kernel_rfl) (by kernel_rfl) hg) ?_; intro bb al; clear u
 refine gp al 41 4 [] (((((u0.ID == u1.ID) && (u0.Long == u1.Long)) && (u0.Fast == u1.Fast)) && (u0.Remote == u1.Remote)) && (u0.Size == u1.Size)) (pt d 5) rfl rfl ?_; intro bc x; clear al
 refine gd x (.slice ao4 u1.Data.length cap5) (m := 4) (cj := []) (bj := ((((u0.ID == u1.ID) && (u0.Long == u1.Long)) && (u0.Fast == u1.Fast)) && (u0.Remote == u1.Remote)) && (u0.Size == u1.Size)) rfl rfl (by kernel_rfl) rfl (by kernel_rfl) (by kernel_rfl) (by kernel_rfl) (fun hg => ld x a 0 (g := [4]) (b := d) (off := 5) (cs := (e24C u1 ao4 cap5)) (ty := 24) rfl (by kernel_rfl) (by kernel_rfl) (by kernel_rfl) (by kernel_rfl) hg) ?_; intro bd am; clear x
 refine gcl am a (.bool (beqS u0.Data u1.Data)) 52 #[.slice ao1 u0.Data.length cap2, .slice ao4 u1.Data.length cap5] (m := 4) (cj := []) (bj := ((((u0.ID == u1.ID) && (u0.Long == u1.Long)) && (u0.Fast == u1.Fast)) && (u0.Remote == u1.Remote)) && (u0.Size == u1.Size)) rfl rfl (by kernel_rfl) rfl (by kernel_rfl) (by kernel_rfl) (by kernel_rfl) (fun _ => by kernel_rfl) (fun hg => beq_fun u0.Data u1.Data ao1 cap2 ao4 cap5 _ _ hs3 hs6 a.fz) ?_; intro be bf y ar; clear am a
 refine st y (.bool ((((((u0.ID == u1.ID) && (u0.Long == u1.Long)) && (u0.Fast == u1.Fast)) && (u0.Remote == u1.Remote)) && (u0.Size == u1.Size)) && (beqS u0.Data u1.Data))) (nog rfl _) rfl (by kernel_rfl) (pk_and y (g := []) (m := 4) (b := ((((u0.ID == u1.ID) && (u0.Long == u1.Long)) && (u0.Fast == u1.Fast)) && (u0.Remote == u1.Remote)) && (u0.Size == u1.Size)) (v := (beqS u0.Data u1.Data)) rfl (by kernel_rfl) (by kernel_rfl) (by kernel_rfl) rfl) ?_; intro bg an; clear y
 refine s1 an 4 (.bool ((((((u0.ID == u1.ID) && (u0.Long == u1.Long)) && (u0.Fast == u1.Fast)) && (u0.Remote == u1.Remote)) && (u0.Size == u1.Size)) && (beqS u0.Data u1.Data))) ?_; intro bh au; clear an
 refine nlH (H _ _ ?_); clear H aq
 refine wp_ret ?_
 refine ra1 au (.bool ((((((u0.ID == u1.ID) && (u0.Long == u1.Long)) && (u0.Fast == u1.Fast)) && (u0.Remote == u1.Remote)) && (u0.Size == u1.Size)) && (beqS u0.Data u1.Data))) ?_
 exact ⟨(((((u0.ID == u1.ID) && (u0.Long == u1.Long)) && (u0.Fast == u1.Fast)) && (u0.Remote == u1.Remote)) && (u0.Size == u1.Size)) && (beqS u0.Data u1.Data), rfl, ao, ar.below⟩

theorem rfail_walk (u0 : FReader) (u1 : Int) (b1 : Nat) (ao2 : Option Addr) (cap3 : Nat) (B : Nat) (w0 : World) (Z0 : Fz) (Rr : List Res) (Z : Fz) (w : World) (hs4 : SlR t8 Z ao2 cap3 u0.f.Data) (hM0 : Mem B [] w0 Z0 ((.row b1 [str u0.Reader.Row, i6 u0.Reader.At, i6 u0.Reader.Code, y8 u0.Reader.c.last, i6 u0.Reader.c.n, i6 u0.f.ID, .bool u0.f.Long, .bool u0.f.Fast, .bool u0.f.Remote, i6 u0.f.Size, .slice ao2 u0.f.Data.length cap3] 61) :: Rr) Z w) (hZ : Z.on w) {K : FReader → Prop} (hp : rfail_vc u0 u1 K) : Calls Tryz.prog 34 #[pt b1 0, i6 u1] w fun e w' => ∃ (r : FReader) (ao1001 : Option Addr) (cap1002 : Nat) (Z' : Fz), e = .returned (.tuple #[]) ∧ K r ∧ Fz.le Z Z' ∧ SlR t8 Z' ao1001 cap1002 r.f.Data ∧ Mem B [] w0 Z0 ((.row b1 [str r.Reader.Row, i6 r.Reader.At, i6 r.Reader.Code, y8 r.Reader.c.last, i6 r.Reader.c.n, i6 r.f.ID, .bool r.f.Long, .bool r.f.Fast, .bool r.f.Remote, i6 r.f.Size, .slice ao1001 r.f.Data.length cap1002] 61) :: Rr) Z' w' := by
 refine enter0 Tryz.func34 rfl rfl (by kernel_rfl) ?_; intro s h; have i := Fz.le.refl Z
 have b := hp (hs4.small); clear hp
 refine sqB h hM0 [0] [] [(9, .bool (u0.Reader.Code == 0))] ?_; intro u a; clear h
 refine cd a (t := u0.Reader.Code == 0) (by kernel_rfl) (fun d => ?_) (fun d => ?_)
 ·
  have l := b.1 d; clear b
  refine rgH ?_; intro m j
  refine bt a hM0 5 [] [] [(11, i6 u1), (14, pt b1 2)] ?_; intro x g; clear a
  refine sx g hM0 0 [str u0.Reader.Row, i6 u0.Reader.At, i6 u1, y8 u0.Reader.c.last, i6 u0.Reader.c.n, i6 u0.f.ID, .bool u0.f.Long, .bool u0.f.Fast, .bool u0.f.Remote, i6 u0.f.Size, .slice ao2 u0.f.Data.length cap3] 2 ?_; intro o k; clear hM0
  have p : Mem B [] w0 Z0 ((.row b1 [str u0.Reader.Row, i6 u0.Reader.At, i6 u1, y8 u0.Reader.c.last, i6 u0.Reader.c.n, i6 u0.f.ID, .bool u0.f.Long, .bool u0.f.Fast, .bool u0.f.Remote, i6 u0.f.Size, .slice ao2 u0.f.Data.length cap3] 61) :: Rr) Z o := k; clear k
  refine nlH (j _ _ ?_); clear j m
  refine rN (fn := Tryz.f34) (v := .tuple #[]) g (re0 g (fn := Tryz.f34) rfl) ?_
  exact ⟨(⟨(⟨u0.Reader.Row, u0.Reader.At, u1, u0.Reader.c⟩ : Reader), u0.f⟩ : FReader), ao2, cap3, Z, rfl, l, i, hs4, p.keep (List.Sublist.cons_cons _ (List.Sublist.refl _))⟩
 have q := b.2 d; clear b
 refine wp_skip ?_
 refine rN (fn := Tryz.f34) (v := .tuple #[]) a (re0 a (fn := Tryz.f34) rfl) ?_
 exact ⟨u0, ao2, cap3, Z, rfl, q, i, hs4, hM0.keep (List.Sublist.cons_cons _ (List.Sublist.refl _))⟩

end Go.Proofs.YtmbdcehmeiiaoaaGreatDoor
set_option linter.unusedVariables false
set_option linter.unusedSimpArgs false
set_option maxRecDepth 100000
set_option maxHeartbeats 0
namespace Go.Proofs.YtmbdcehmeiiaoaaGreatDoor
open Go.Sy Go.RowKit
abbrev e24Ra (X : Frame) (A0 : Option Addr) (C0 : Nat) : List Value := [i6 X.ID, .bool X.Long, .bool X.Fast, .bool X.Remote, i6 X.Size, .slice A0 X.Data.length C0]
theorem rofb_walk (u0 : List Int) (ao1 : Option Addr) (cap2 : Nat) (Z : Fz) (w : World) (hs3 : SlR t8 Z ao1 cap2 u0) (hg5 : SlR t8 Z (sm 5) 64 deBruijn64) (hZ : Z.on w) {K : (List UInt8) → Prop} (hp : rofb_vc u0 K) : Calls Tryz.prog 90 #[.slice ao1 u0.length cap2] w fun e w' => ∃ r : (List UInt8), e = .returned (str r) ∧ K r ∧ Below w.heap.size w w' := by
 refine enter0 Tryz.func90 rfl rfl (by kernel_rfl) ?_; intro a0 m; have g := Mem.start w Z hZ; have ay := Fz.le.refl Z
 have U := hp (hs3.small); clear hp
 refine sqB m g [] [] [] ?_; intro a6 n; clear m
 refine sqB n g [] [] [(3, str [])] ?_; intro a9 o; clear n
 refine wp_seq ?_
 refine sqB o g [] [] [(7, .slice ao1 u0.length cap2), (8, i6 (u0.length : Int)), (9, i6 0)] ?_; intro p q; clear o
 refine wp_block ?_
 have u : Fr 26 [] [⟨3, [], str []⟩, ⟨7, [], .slice ao1 u0.length cap2⟩, ⟨8, [], i6 (u0.length : Int)⟩, ⟨9, [], i6 0⟩] p := q.region (by kernel_rfl) (by kernel_rfl); clear q
 have v : Fr 26 [] [⟨3, [], str []⟩, ⟨7, [], .slice ao1 u0.length cap2⟩, ⟨8, [], i6 (u0.length : Int)⟩, ⟨9, [], i6 0⟩] p := u.region (by kernel_rfl) (by kernel_rfl); clear u
 obtain ⟨V, W, X, Y⟩ := U
 refine lp (ι := (List UInt8) × Int) (fun s => [⟨3, [], str s.1⟩, ⟨7, [], .slice ao1 u0.length cap2⟩, ⟨8, [], i6 (u0.length : Int)⟩, ⟨9, [], i6 s.2⟩]) (fun s => []) (fun s => Z) (fun s => V s.1 s.2) (fun s => W s.1 s.2) ⟨[], 0⟩ X (by exact v.region (by kernel_rfl) (by kernel_rfl)) (by exact g) ?_
 rintro ⟨a, d⟩ aa ab ac x y
 have z : Fr 26 [] [⟨3, [], str a⟩, ⟨7, [], .slice ao1 u0.length cap2⟩, ⟨8, [], i6 (u0.length : Int)⟩, ⟨9, [], i6 d⟩] ab := x; clear x v
 have b : Mem w.heap.size [] w Z [] Z ac := y; clear y g
 have i := Y a d aa
 refine sqB z b [] [] [(10, .bool (decide (d < (u0.length : Int))))] ?_; intro az h; clear z
 refine wp_seq ?_
 refine cd h (t := decide (d < (u0.length : Int))) (by kernel_rfl) (fun l => ?_) (fun l => ?_)
 · -- yes
  have ad := i.1 l; clear i
  refine wp_skip ?_
  refine thn ?_
  refine wp_seq ?_
  refine wp_block ?_
  refine sqH ?_; intro ae A
  obtain ⟨af, B⟩ := ad
  refine ix h (T := t8) (xs := u0) hs3 d af (k := .i64) (e := 5) (bytes := 1) (nog rfl _) rfl (by kernel_rfl) rfl (by kernel_rfl) (by kernel_rfl) (by kernel_rfl) ?_; intro aA aB ag f aC ah ai aj C; clear h
  have ak := B f ah; clear B
  obtain rfl : ag = ([y8 f] : List Value) := aj
  refine z1 C b 12 ai 0 (y8 f) rfl ?_; intro aD D; clear C
  refine s1 D 5 (y8 f) ?_; intro aE E; clear D
  refine nlH (A _ _ ?_); clear A ae
  refine sqH ?_; intro al F
  refine bt E b 2 [] [] [(14, i6 (w64 f))] ?_; intro aF G; clear E
  refine ck G 88 #[i6 (w64 f), i6 2] ?_
  refine (fint1_walk (w64 f) _ _ hg5 b.fz ak).mono ?_; rintro _ aG ⟨c, rfl, am, hb⟩; refine ⟨_, rfl, ?_⟩; intro aH H; have j := b.call hb; clear hb b G
  refine s1 H 6 (str c) ?_; intro aI I; clear H
  refine nlH (F _ _ ?_); clear F al
  refine rgH ?_; intro an J
  refine bt I j 4 [] [] [(16, str a), (19, i6 (w64 (8 - (c.length : Int))))] ?_; intro aJ L; clear I
  obtain ⟨ao, ap⟩ := am
  refine fc L j (srep_fun ([48] : List UInt8) (w64 (8 - (c.length : Int))) ao _ _ j.fz) ?_; intro aK aL M N; clear L j
  refine s1 M 21 (str c) ?_; intro aM O; clear M
  obtain ⟨aq, ar⟩ := ap
  refine sa O aq ?_; intro aN P; clear O
  obtain ⟨au, Q⟩ := ar
  refine sa P au ?_; intro aO R; clear P
  refine s1 R 3 (str (a ++ ((srepS ([48] : List UInt8) (w64 (8 - (c.length : Int)))) ++ c))) ?_; intro aP S; clear R
  refine nlH (J _ _ ?_); clear J an
  refine ibn ?_
  refine thn ?_
  refine rgB S N [] [] [(9, i6 (w64 (d + 1)))] ?_; intro aQ av; clear S
  refine rd ?_
  exact ⟨⟨a ++ ((srepS ([48] : List UInt8) (w64 (8 - (c.length : Int)))) ++ c), w64 (d + 1)⟩, Q.1, Q.2, (av.region (by kernel_rfl) (by kernel_rfl)).anyβ _ (by kernel_rfl), N.keep (List.Sublist.slnil)⟩
 · -- no
  have aw := i.2 l; clear i
  refine wp_exit ?_
  refine thx ?_
  refine thx ?_
  refine ibx ?_
  refine thn ?_
  refine sqB h b [] [] [(2, str a)] ?_; intro aR ax; clear h
  refine wp_ret ?_
  refine ra1 ax (str a) ?_
  exact ⟨a, rfl, aw, b.below⟩

theorem rname_walk (u0 : Frame) (ao1 : Option Addr) (cap2 : Nat) (Z : Fz) (w : World) (hs3 : SlR t8 Z ao1 cap2 u0.Data) (hg5 : SlR t8 Z (sm 5) 64 deBruijn64) (hZ : Z.on w) {K : (List UInt8) → Prop} (hp : rname_vc u0 K) : Calls Tryz.prog 20 #[.agg #[i6 u0.ID, .bool u0.Long, .bool u0.Fast, .bool u0.Remote, i6 u0.Size, .slice ao1 u0.Data.length cap2]] w fun e w' => ∃ r : (List UInt8), e = .returned (str r) ∧ K r ∧ Below w.heap.size w w' := by
 refine enter0 Tryz.func20 rfl rfl (by kernel_rfl) ?_; intro a0 E; have F := Mem.start w Z hZ; have bv := Fz.le.refl Z
 have f := hp (hs3.small); clear hp
 refine sqH ?_; intro ax G
 refine nw E F pb (e24Ra u0 ao1 cap2) 24 ?_; intro b6 a7 bw H a; clear E F
 refine s1 H 2 (str []) ?_; intro bx I; clear H
 refine nlH (G _ _ ?_); clear G ax
 refine sqB I a [] [] [(3, str ([48] : List UInt8))] ?_; intro bz J; clear I
 refine wp_seq ?_
 refine sqB J a [0] [] [(9, .bool u0.Remote)] ?_; intro bA b; clear J
 refine cd b (t := u0.Remote) (by kernel_rfl) (fun j => ?_) (fun j => ?_)
 · -- yes
  have h := f.1 j; clear f
  refine rgB b a [] [] [(3, str ([49] : List UInt8))] ?_; intro bB L; clear b
  refine thn ?_
  refine wp_seq ?_
  refine sqB L a [0] [] [(11, .bool u0.Long)] ?_; intro bC c; clear L
  refine cd c (t := u0.Long) (by kernel_rfl) (fun l => ?_) (fun l => ?_)
  · -- yes
   have ay := h.1 l; clear h
   refine sqH ?_; intro az M
   refine bt c a 2 [0] [] [(14, i6 u0.ID)] ?_; intro bD N; clear c
   obtain ⟨aA, aB⟩ := ay
   refine fc N a (rrow_fun u0.ID 29 aA _ _ hg5 a.fz) ?_; intro bE bF O m; clear N a
   refine bt O m 5 [] [] [(4, str (rrowS u0.ID 29).1)] ?_; intro aC P; clear O
   refine nlH (M _ _ ?_); clear M az
   have Q : Fr 36 [] [⟨3, [], str ([49] : List UInt8)⟩, ⟨4, [], str (rrowS u0.ID 29).1⟩] aC := P.region (by kernel_rfl) (by kernel_rfl); clear P
   refine sqQH mixed (by kernel_rfl) m ?_; intro aD R
   refine q1 Q 18 (str (rrowS u0.ID 29).1) ?_; intro bG n; clear Q
   obtain ⟨aE, aF⟩ := aB
   refine qst n (str ((rrowS u0.ID 29).1.take (11 : Int).toNat)) (nog rfl _) rfl (by kernel_rfl) (fun v59 hC => strslH_run n (g := []) (k := .i64) rfl (by kernel_rfl) (by kernel_rfl) (by kernel_rfl) aE rfl) ?_; intro bH o; clear n
   obtain ⟨aG, aH⟩ := aF
   refine qst o (str (((rrowS u0.ID 29).1.take (11 : Int).toNat) ++ ([49, 49] : List UInt8))) (nog rfl _) rfl (by kernel_rfl) (fun v64 hC => stradd_run o (g := []) rfl (by kernel_rfl) (by kernel_rfl) aG rfl) ?_; intro bI S; clear o
   refine q1 S 21 (str (rrowS u0.ID 29).1) ?_; intro bJ p; clear S
   obtain ⟨aI, aJ⟩ := aH
   refine qst p (str ((rrowS u0.ID 29).1.drop (11 : Int).toNat)) (nog rfl _) rfl (by kernel_rfl) (fun v72 hC => strslL_run p (g := []) (k := .i64) rfl (by kernel_rfl) (by kernel_rfl) (by kernel_rfl) aI rfl) ?_; intro bK q; clear p
   obtain ⟨aK, aL⟩ := aJ
   refine qst q (str ((((rrowS u0.ID 29).1.take (11 : Int).toNat) ++ ([49, 49] : List UInt8)) ++ ((rrowS u0.ID 29).1.drop (11 : Int).toNat))) (nog rfl _) rfl (by kernel_rfl) (fun v77 hC => stradd_run q (g := []) rfl (by kernel_rfl) (by kernel_rfl) aK rfl) ?_; intro bL T; clear q
   refine q1 T 24 (str ([49] : List UInt8)) ?_; intro bM s; clear T
   obtain ⟨aM, aN⟩ := aL
   refine qst s (str (((((rrowS u0.ID 29).1.take (11 : Int).toNat) ++ ([49, 49] : List UInt8)) ++ ((rrowS u0.ID 29).1.drop (11 : Int).toNat)) ++ ([49] : List UInt8))) (nog rfl _) rfl (by kernel_rfl) (fun v85 hC => stradd_run s (g := []) rfl (by kernel_rfl) (by kernel_rfl) aM rfl) ?_; intro bN U; clear s
   refine q1 U 2 (str (((((rrowS u0.ID 29).1.take (11 : Int).toNat) ++ ([49, 49] : List UInt8)) ++ ((rrowS u0.ID 29).1.drop (11 : Int).toNat)) ++ ([49] : List UInt8))) ?_; intro bO aO; clear U
   refine qnl (R _ ?_); clear R aD; intro bP aP; clear m
   refine wp_ret ?_
   refine thr ?_
   refine ra1 aO (str (((((rrowS u0.ID 29).1.take (11 : Int).toNat) ++ ([49, 49] : List UInt8)) ++ ((rrowS u0.ID 29).1.drop (11 : Int).toNat)) ++ ([49] : List UInt8))) ?_
   exact ⟨((((rrowS u0.ID 29).1.take (11 : Int).toNat) ++ ([49, 49] : List UInt8)) ++ ((rrowS u0.ID 29).1.drop (11 : Int).toNat)) ++ ([49] : List UInt8), rfl, aN, aP.below⟩
  · -- no
   have aQ := h.2 l; clear h
   refine wp_skip ?_
   refine thn ?_
   refine sqH ?_; intro aR V
   refine bt c a 2 [0] [] [(28, i6 u0.ID)] ?_; intro bQ W; clear c
   obtain ⟨aS, aT⟩ := aQ
   refine fc W a (rrow_fun u0.ID 11 aS _ _ hg5 a.fz) ?_; intro bR bS X u; clear W a
   refine bt X u 5 [] [] [(6, str (rrowS u0.ID 11).1)] ?_; intro bT Y; clear X
   refine nlH (V _ _ ?_); clear V aR
   refine sqH ?_; intro aU aa
   refine bt Y u 2 [] [] [(32, str (rrowS u0.ID 11).1), (33, str ([49] : List UInt8))] ?_; intro bU ab; clear Y
   obtain ⟨aV, aW⟩ := aT
   refine sa ab aV ?_; intro bV ac; clear ab
   obtain ⟨aX, aY⟩ := aW
   refine sa ac aX ?_; intro bW ad; clear ac
   refine s1 ad 2 (str (((rrowS u0.ID 11).1 ++ ([49] : List UInt8)) ++ ([48] : List UInt8))) ?_; intro bX aZ; clear ad
   refine nlH (aa _ _ ?_); clear aa aU
   refine wp_ret ?_
   refine ra1 aZ (str (((rrowS u0.ID 11).1 ++ ([49] : List UInt8)) ++ ([48] : List UInt8))) ?_
   exact ⟨((rrowS u0.ID 11).1 ++ ([49] : List UInt8)) ++ ([48] : List UInt8), rfl, aY, u.below⟩
 · -- no
  have i := f.2 j; clear f
  refine wp_skip ?_
  refine thn ?_
  refine wp_seq ?_
  refine sqB b a [0] [] [(11, .bool u0.Long)] ?_; intro bY d; clear b
  refine cd d (t := u0.Long) (by kernel_rfl) (fun v => ?_) (fun v => ?_)
  · -- yes
   have a1 := i.1 v; clear i
   refine sqH ?_; intro a2 ae
   refine bt d a 2 [0] [] [(14, i6 u0.ID)] ?_; intro bZ af; clear d
   obtain ⟨a3, a4⟩ := a1
   refine fc af a (rrow_fun u0.ID 29 a3 _ _ hg5 a.fz) ?_; intro b0 b1 ag x; clear af a
   refine bt ag x 5 [] [] [(4, str (rrowS u0.ID 29).1)] ?_; intro a5 ah; clear ag
   refine nlH (ae _ _ ?_); clear ae a2
   have ai : Fr 36 [] [⟨3, [], str ([48] : List UInt8)⟩, ⟨4, [], str (rrowS u0.ID 29).1⟩] a5 := ah.region (by kernel_rfl) (by kernel_rfl); clear ah
   refine sqQH mixed (by kernel_rfl) x ?_; intro a6 aj
   refine q1 ai 18 (str (rrowS u0.ID 29).1) ?_; intro b2 y; clear ai
   obtain ⟨a8, a9⟩ := a4
   refine qst y (str ((rrowS u0.ID 29).1.take (11 : Int).toNat)) (nog rfl _) rfl (by kernel_rfl) (fun v166 hC => strslH_run y (g := []) (k := .i64) rfl (by kernel_rfl) (by kernel_rfl) (by kernel_rfl) a8 rfl) ?_; intro b3 z; clear y
   obtain ⟨ba, bb⟩ := a9
   refine qst z (str (((rrowS u0.ID 29).1.take (11 : Int).toNat) ++ ([49, 49] : List UInt8))) (nog rfl _) rfl (by kernel_rfl) (fun v171 hC => stradd_run z (g := []) rfl (by kernel_rfl) (by kernel_rfl) ba rfl) ?_; intro b4 ak; clear z
   refine q1 ak 21 (str (rrowS u0.ID 29).1) ?_; intro b5 A; clear ak
   obtain ⟨bc, bd⟩ := bb
   refine qst A (str ((rrowS u0.ID 29).1.drop (11 : Int).toNat)) (nog rfl _) rfl (by kernel_rfl) (fun v179 hC => strslL_run A (g := []) (k := .i64) rfl (by kernel_rfl) (by kernel_rfl) (by kernel_rfl) bc rfl) ?_; intro b7 B; clear A
   obtain ⟨be, bf⟩ := bd
   refine qst B (str ((((rrowS u0.ID 29).1.take (11 : Int).toNat) ++ ([49, 49] : List UInt8)) ++ ((rrowS u0.ID 29).1.drop (11 : Int).toNat))) (nog rfl _) rfl (by kernel_rfl) (fun v184 hC => stradd_run B (g := []) rfl (by kernel_rfl) (by kernel_rfl) be rfl) ?_; intro b8 al; clear B
   refine q1 al 24 (str ([48] : List UInt8)) ?_; intro b9 C; clear al
   obtain ⟨bg, bh⟩ := bf
   refine qst C (str (((((rrowS u0.ID 29).1.take (11 : Int).toNat) ++ ([49, 49] : List UInt8)) ++ ((rrowS u0.ID 29).1.drop (11 : Int).toNat)) ++ ([48] : List UInt8))) (nog rfl _) rfl (by kernel_rfl) (fun v192 hC => stradd_run C (g := []) rfl (by kernel_rfl) (by kernel_rfl) bg rfl) ?_; intro ca am; clear C
   refine q1 am 2 (str (((((rrowS u0.ID 29).1.take (11 : Int).toNat) ++ ([49, 49] : List UInt8)) ++ ((rrowS u0.ID 29).1.drop (11 : Int).toNat)) ++ ([48] : List UInt8))) ?_; intro cb bi; clear am
   refine qnl (aj _ ?_); clear aj a6; intro cc bj; clear x
   refine wp_ret ?_
   refine thr ?_
   refine ra1 bi (str (((((rrowS u0.ID 29).1.take (11 : Int).toNat) ++ ([49, 49] : List UInt8)) ++ ((rrowS u0.ID 29).1.drop (11 : Int).toNat)) ++ ([48] : List UInt8))) ?_
   exact ⟨((((rrowS u0.ID 29).1.take (11 : Int).toNat) ++ ([49, 49] : List UInt8)) ++ ((rrowS u0.ID 29).1.drop (11 : Int).toNat)) ++ ([48] : List UInt8), rfl, bh, bj.below⟩
  · -- no
   have bk := i.2 v; clear i
   refine wp_skip ?_
   refine thn ?_
   refine sqH ?_; intro bl an
   refine bt d a 2 [0] [] [(28, i6 u0.ID)] ?_; intro ce ao; clear d
   obtain ⟨bm, bn⟩ := bk
   refine fc ao a (rrow_fun u0.ID 11 bm _ _ hg5 a.fz) ?_; intro cf cg ap D; clear ao a
   refine bt ap D 5 [] [] [(6, str (rrowS u0.ID 11).1)] ?_; intro ch aq; clear ap
   refine nlH (an _ _ ?_); clear an bl
   refine sqH ?_; intro bo ar
   refine bt aq D 2 [] [] [(32, str (rrowS u0.ID 11).1), (33, str ([48] : List UInt8))] ?_; intro ci au; clear aq
   obtain ⟨bp, bq⟩ := bn
   refine sa au bp ?_; intro cj av; clear au
   obtain ⟨br, bs⟩ := bq
   refine sa av br ?_; intro ck aw; clear av
   refine s1 aw 2 (str (((rrowS u0.ID 11).1 ++ ([48] : List UInt8)) ++ ([48] : List UInt8))) ?_; intro cl bu; clear aw
   refine nlH (ar _ _ ?_); clear ar bo
   refine wp_ret ?_
   refine ra1 bu (str (((rrowS u0.ID 11).1 ++ ([48] : List UInt8)) ++ ([48] : List UInt8))) ?_
   exact ⟨((rrowS u0.ID 11).1 ++ ([48] : List UInt8)) ++ ([48] : List UInt8), rfl, bs, D.below⟩

theorem rsizes_walk   (Z : Fz) (w : World)  (hZ : Z.on w) {K : (List Int) → Prop} (hp : rsizes_vc  K) : Calls Tryz.prog 48 #[] w fun e w' => ∃ (r : (List Int)) (ao1001 : Option Addr) (cap1002 : Nat) (Z' : Fz), e = .returned (.slice ao1001 r.length cap1002) ∧ K r ∧ Mem w.heap.size [] w Z [.own t6 3 ao1001 cap1002 r] Z' w' := by
 refine enter0 Tryz.func48 rfl rfl (by kernel_rfl) ?_; intro n d; have c := Mem.start w Z hZ; have o := Fz.le.refl Z
 refine sqB d c [] [] [] ?_; intro p f; clear d
 refine sqH ?_; intro j g
 refine nw f c (fun b => .slice (sm b) 16 16) [i6 0, i6 1, i6 2, i6 3, i6 4, i6 5, i6 6, i6 7, i6 8, i6 12, i6 16, i6 20, i6 24, i6 32, i6 48, i6 64] 3 ?_; intro a q k h i; clear f c
 refine s1 h 0 (.slice (sm a) 16 16) ?_; intro s l; clear h
 refine nlH (g _ _ ?_); clear g j
 refine wp_ret ?_
 have m : Mem w.heap.size [] w Z [.own t6 3 (sm a) 16 ([0, 1, 2, 3, 4, 5, 6, 7, 8, 12, 16, 20, 24, 32, 48, 64] : List Int)] Z k := i.rowOwn (T := t6) (xs := ([0, 1, 2, 3, 4, 5, 6, 7, 8, 12, 16, 20, 24, 32, 48, 64] : List Int)) 0 rfl (by decide) (by show 16 ≤ lim; decide) ((RepAll.one (T := t6) (x := 0) rfl).append ((RepAll.one (T := t6) (x := 1) rfl).append ((RepAll.one (T := t6) (x := 2) rfl).append ((RepAll.one (T := t6) (x := 3) rfl).append ((RepAll.one (T := t6) (x := 4) rfl).append ((RepAll.one (T := t6) (x := 5) rfl).append ((RepAll.one (T := t6) (x := 6) rfl).append ((RepAll.one (T := t6) (x := 7) rfl).append ((RepAll.one (T := t6) (x := 8) rfl).append ((RepAll.one (T := t6) (x := 12) rfl).append ((RepAll.one (T := t6) (x := 16) rfl).append ((RepAll.one (T := t6) (x := 20) rfl).append ((RepAll.one (T := t6) (x := 24) rfl).append ((RepAll.one (T := t6) (x := 32) rfl).append ((RepAll.one (T := t6) (x := 48) rfl).append (RepAll.one (T := t6) (x := 64) rfl)))))))))))))))); clear i
 refine ra1 l (.slice (sm a) ([0, 1, 2, 3, 4, 5, 6, 7, 8, 12, 16, 20, 24, 32, 48, 64] : List Int).length 16) ?_
 exact ⟨([0, 1, 2, 3, 4, 5, 6, 7, 8, 12, 16, 20, 24, 32, 48, 64] : List Int), (sm a), 16, Z, rfl, hp, m.keep (List.Sublist.cons_cons _ (List.Sublist.slnil))⟩
theorem rsizes_fun   (Z : Fz) (w : World)  (hZ : Z.on w) : Calls Tryz.prog 48 #[] w fun e w' => ∃ (ao1001 : Option Addr) (cap1002 : Nat) (Z' : Fz), e = .returned (.slice ao1001 rsizes.length cap1002) ∧ Mem w.heap.size [] w Z [.own t6 3 ao1001 cap1002 rsizes] Z' w' :=
  (rsizes_walk   Z w  hZ (rsizes_ok )).mono fun _ _ ⟨r, h0, h1, h2, he, hk, hm⟩ => by subst hk; exact ⟨h0, h1, h2, he, hm⟩

theorem rcheckfr_walk (u0 : Frame) (ao1 : Option Addr) (cap2 : Nat) (Z : Fz) (w : World) (hs3 : SlR t8 Z ao1 cap2 u0.Data) (hZ : Z.on w) {K : Int → Prop} (hp : rcheckfr_vc u0 K) : Calls Tryz.prog 17 #[.agg #[i6 u0.ID, .bool u0.Long, .bool u0.Fast, .bool u0.Remote, i6 u0.Size, .slice ao1 u0.Data.length cap2]] w fun e w' => ∃ r : Int, e = .returned (i6 r) ∧ K r ∧ Below w.heap.size w w' := by
 refine enter0 Tryz.func17 rfl rfl (by kernel_rfl) ?_; intro a0 ac; have ad := Mem.start w Z hZ; have b := Fz.le.refl Z
 have v := hp (hs3.small); clear hp
 refine sqH ?_; intro aL ae
 refine nw ac ad pb (e24Ra u0 ao1 cap2) 24 ?_; intro c a7 bq af a; clear ac ad
 refine s1 af 2 (i6 0) ?_; intro br ag; clear af
 refine nlH (ae _ _ ?_); clear ae aL
 refine sqB ag a [] [] [(3, i6 2047)] ?_; intro bs ah; clear ag
 refine wp_seq ?_
 refine sqB ah a [0] [] [(5, .bool u0.Long)] ?_; intro bt g; clear ah
 refine cd g (t := u0.Long) (by kernel_rfl) (fun H => ?_) (fun H => ?_)
 · -- yes
  have x := v.1 H; clear v
  refine rgB g a [] [] [(3, i6 536870911)] ?_; intro bu ai; clear g
  refine thn ?_
  refine wp_seq ?_
  refine sqB ai a [0, 0] [] [(14, .bool ((decide (u0.ID < 0)) || (decide (u0.ID > 536870911))))] ?_; intro bv h; clear ai
  refine cd h (t := (decide (u0.ID < 0)) || (decide (u0.ID > 536870911))) (by kernel_rfl) (fun I => ?_) (fun I => ?_)
  · -- yes
   have aM := x.1 I; clear x
   refine sqB h a [] [] [(2, i6 3)] ?_; intro bw aN; clear h
   refine wp_ret ?_
   refine thr ?_
   refine ra1 aN (i6 3) ?_
   exact ⟨3, rfl, aM, a.below⟩
  · -- no
   have y := x.2 I; clear x
   refine wp_skip ?_
   refine thn ?_
   refine wp_seq ?_
   refine sqB h a [0, 0, 0] [] [(26, .bool (u0.Remote && (u0.Fast || ((u0.Data.length : Int) != 0))))] ?_; intro bx i; clear h
   refine cd i (t := u0.Remote && (u0.Fast || ((u0.Data.length : Int) != 0))) (by kernel_rfl) (fun J => ?_) (fun J => ?_)
   · -- yes
    have aO := y.1 J; clear y
    refine sqB i a [] [] [(2, i6 4)] ?_; intro bz aP; clear i
    refine wp_ret ?_
    refine thr ?_
    refine ra1 aP (i6 4) ?_
    exact ⟨4, rfl, aO, a.below⟩
   · -- no
    have z := y.2 J; clear y
    refine wp_skip ?_
    refine thn ?_
    refine wp_seq ?_
    refine sqB i a [0, 0, 0, 0] [] [(44, .bool (((decide (u0.Size < 0)) || (decide (u0.Size > 8))) || ((decide (u0.Size > 0)) && (!u0.Remote))))] ?_; intro bA j; clear i
    refine cd j (t := ((decide (u0.Size < 0)) || (decide (u0.Size > 8))) || ((decide (u0.Size > 0)) && (!u0.Remote))) (by kernel_rfl) (fun L => ?_) (fun L => ?_)
    · -- yes
     have aQ := z.1 L; clear z
     refine sqB j a [] [] [(2, i6 3)] ?_; intro bB aR; clear j
     refine wp_ret ?_
     refine thr ?_
     refine ra1 aR (i6 3) ?_
     exact ⟨3, rfl, aQ, a.below⟩
    · -- no
     have A := z.2 L; clear z
     refine wp_skip ?_
     refine thn ?_
     refine wp_seq ?_
     refine sqB j a [0, 0, 0] [] [(59, .bool ((decide ((u0.Data.length : Int) > 64)) || ((decide ((u0.Data.length : Int) > 8)) && (!u0.Fast))))] ?_; intro aS k; clear j
     refine cd k (t := (decide ((u0.Data.length : Int) > 64)) || ((decide ((u0.Data.length : Int) > 8)) && (!u0.Fast))) (by kernel_rfl) (fun M => ?_) (fun M => ?_)
     · -- yes
      have aT := A.1 M; clear A
      refine sqB k a [] [] [(2, i6 2)] ?_; intro bC aU; clear k
      refine wp_ret ?_
      refine thr ?_
      refine ra1 aU (i6 2) ?_
      exact ⟨2, rfl, aT, a.below⟩
     · -- no
      have B := A.2 M; clear A
      refine wp_skip ?_
      refine thn ?_
      refine wp_seq ?_
      have aj : Fr 66 [] [⟨1, [], pt c 0⟩] aS := k.region (by kernel_rfl) (by kernel_rfl); clear k
      refine wp_seq (rgS mixed a [(1, true), (2, true), (3, true), (0, false), (4, false), (5, true)] [] [0] [.row c (e24Ra u0 ao1 cap2) 24] ?_)
      intro aV ak bD N; clear a
      have d := Fz.le.refl Z
      refine cS aj 3 [0] [] [(63, i6 (u0.Data.length : Int))] ?_; intro bE al; clear aj
      refine eS rfl ?_; intro aW am
      refine ck al 48 #[] ?_
      refine (rsizes_fun  _ _ N.fz).mono ?_; rintro _ an ⟨ao, ap, aX, rfl, hm⟩; refine ⟨_, rfl, ?_⟩; intro bF aq; have ar := N.callZ hm; have O := hm.ext.le; clear hm N al
      replace hs3 := hs3.mono O
      replace d := d.mono O
      replace b := Fz.le.trans b O
      have au : Mem w.heap.size [] w Z [.own t6 3 ao ap rsizes, .row c (e24Ra u0 ao1 cap2) 24] aX an := ar; clear ar
      refine nl (qnI (am _ _ (au.cst d [1]) ?_)); clear am aW
      refine eS rfl ?_; intro aY av
      obtain ⟨aZ, P, aw, a1⟩ := au.freeze 0 rfl
      replace hs3 := hs3.mono P
      replace d := d.mono P
      replace b := Fz.le.trans b P
      have Q : Mem w.heap.size [] w Z [.row c (e24Ra u0 ao1 cap2) 24] aZ an := aw; clear aw
      refine fc aq Q (scontains_fun rsizes (u0.Data.length : Int) ao ap _ _ a1 Q.fz) ?_; intro bG bH ax l; clear aq Q
      refine nl (qnI (av _ _ (l.cst d [0]) ?_)); clear av aY
      refine cS ax 1 [] [] [(65, .bool (!(scontainsS rsizes (u0.Data.length : Int))))] ?_; intro bI m; clear ax
      refine nS (ak _ _ ?_); clear ak aV
      refine thn ?_
      refine cd m (t := !(scontainsS rsizes (u0.Data.length : Int))) (by kernel_rfl) (fun R => ?_) (fun R => ?_)
      · -- yes
       have a2 := B.1 R; clear B
       refine sqB m l [] [] [(2, i6 4)] ?_; intro bJ a3; clear m
       refine wp_ret ?_
       refine thr ?_
       refine ra1 a3 (i6 4) ?_
       exact ⟨4, rfl, a2, l.below⟩
      · -- no
       have a4 := B.2 R; clear B
       refine wp_skip ?_
       refine thn ?_
       refine sqB m l [] [] [(2, i6 0)] ?_; intro bK a5; clear m
       refine wp_ret ?_
       refine ra1 a5 (i6 0) ?_
       exact ⟨0, rfl, a4, l.below⟩
 · -- no
  have C := v.2 H; clear v
  refine wp_skip ?_
  refine thn ?_
  refine wp_seq ?_
  refine sqB g a [0, 0] [] [(14, .bool ((decide (u0.ID < 0)) || (decide (u0.ID > 2047))))] ?_; intro bL n; clear g
  refine cd n (t := (decide (u0.ID < 0)) || (decide (u0.ID > 2047))) (by kernel_rfl) (fun S => ?_) (fun S => ?_)
  · -- yes
   have a6 := C.1 S; clear C
   refine sqB n a [] [] [(2, i6 3)] ?_; intro bM a8; clear n
   refine wp_ret ?_
   refine thr ?_
   refine ra1 a8 (i6 3) ?_
   exact ⟨3, rfl, a6, a.below⟩
  · -- no
   have D := C.2 S; clear C
   refine wp_skip ?_
   refine thn ?_
   refine wp_seq ?_
   refine sqB n a [0, 0, 0] [] [(26, .bool (u0.Remote && (u0.Fast || ((u0.Data.length : Int) != 0))))] ?_; intro bN o; clear n
   refine cd o (t := u0.Remote && (u0.Fast || ((u0.Data.length : Int) != 0))) (by kernel_rfl) (fun T => ?_) (fun T => ?_)
   · -- yes
    have a9 := D.1 T; clear D
    refine sqB o a [] [] [(2, i6 4)] ?_; intro bO ba; clear o
    refine wp_ret ?_
    refine thr ?_
    refine ra1 ba (i6 4) ?_
    exact ⟨4, rfl, a9, a.below⟩
   · -- no
    have E := D.2 T; clear D
    refine wp_skip ?_
    refine thn ?_
    refine wp_seq ?_
    refine sqB o a [0, 0, 0, 0] [] [(44, .bool (((decide (u0.Size < 0)) || (decide (u0.Size > 8))) || ((decide (u0.Size > 0)) && (!u0.Remote))))] ?_; intro bP p; clear o
    refine cd p (t := ((decide (u0.Size < 0)) || (decide (u0.Size > 8))) || ((decide (u0.Size > 0)) && (!u0.Remote))) (by kernel_rfl) (fun U => ?_) (fun U => ?_)
    · -- yes
     have bb := E.1 U; clear E
     refine sqB p a [] [] [(2, i6 3)] ?_; intro bQ bc; clear p
     refine wp_ret ?_
     refine thr ?_
     refine ra1 bc (i6 3) ?_
     exact ⟨3, rfl, bb, a.below⟩
    · -- no
     have F := E.2 U; clear E
     refine wp_skip ?_
     refine thn ?_
     refine wp_seq ?_
     refine sqB p a [0, 0, 0] [] [(59, .bool ((decide ((u0.Data.length : Int) > 64)) || ((decide ((u0.Data.length : Int) > 8)) && (!u0.Fast))))] ?_; intro bd q; clear p
     refine cd q (t := (decide ((u0.Data.length : Int) > 64)) || ((decide ((u0.Data.length : Int) > 8)) && (!u0.Fast))) (by kernel_rfl) (fun V => ?_) (fun V => ?_)
     · -- yes
      have be := F.1 V; clear F
      refine sqB q a [] [] [(2, i6 2)] ?_; intro bR bf; clear q
      refine wp_ret ?_
      refine thr ?_
      refine ra1 bf (i6 2) ?_
      exact ⟨2, rfl, be, a.below⟩
     · -- no
      have G := F.2 V; clear F
      refine wp_skip ?_
      refine thn ?_
      refine wp_seq ?_
      have ay : Fr 66 [] [⟨1, [], pt c 0⟩] bd := q.region (by kernel_rfl) (by kernel_rfl); clear q
      refine wp_seq (rgS mixed a [(1, true), (2, true), (3, true), (0, false), (4, false), (5, true)] [] [0] [.row c (e24Ra u0 ao1 cap2) 24] ?_)
      intro bg az bS W; clear a
      have f := Fz.le.refl Z
      refine cS ay 3 [0] [] [(63, i6 (u0.Data.length : Int))] ?_; intro bT aA; clear ay
      refine eS rfl ?_; intro bh aB
      refine ck aA 48 #[] ?_
      refine (rsizes_fun  _ _ W.fz).mono ?_; rintro _ aC ⟨aD, aE, bi, rfl, hm⟩; refine ⟨_, rfl, ?_⟩; intro bU aF; have aG := W.callZ hm; have X := hm.ext.le; clear hm W aA
      replace hs3 := hs3.mono X
      replace f := f.mono X
      replace b := Fz.le.trans b X
      have aH : Mem w.heap.size [] w Z [.own t6 3 aD aE rsizes, .row c (e24Ra u0 ao1 cap2) 24] bi aC := aG; clear aG
      refine nl (qnI (aB _ _ (aH.cst f [1]) ?_)); clear aB bh
      refine eS rfl ?_; intro bj aI
      obtain ⟨bk, Y, aJ, bl⟩ := aH.freeze 0 rfl
      replace hs3 := hs3.mono Y
      replace f := f.mono Y
      replace b := Fz.le.trans b Y
      have aa : Mem w.heap.size [] w Z [.row c (e24Ra u0 ao1 cap2) 24] bk aC := aJ; clear aJ
      refine fc aF aa (scontains_fun rsizes (u0.Data.length : Int) aD aE _ _ bl aa.fz) ?_; intro bV bW aK s; clear aF aa
      refine nl (qnI (aI _ _ (s.cst f [0]) ?_)); clear aI bj
      refine cS aK 1 [] [] [(65, .bool (!(scontainsS rsizes (u0.Data.length : Int))))] ?_; intro bX u; clear aK
      refine nS (az _ _ ?_); clear az bg
      refine thn ?_
      refine cd u (t := !(scontainsS rsizes (u0.Data.length : Int))) (by kernel_rfl) (fun ab => ?_) (fun ab => ?_)
      · -- yes
       have bm := G.1 ab; clear G
       refine sqB u s [] [] [(2, i6 4)] ?_; intro bY bn; clear u
       refine wp_ret ?_
       refine thr ?_
       refine ra1 bn (i6 4) ?_
       exact ⟨4, rfl, bm, s.below⟩
      · -- no
       have bo := G.2 ab; clear G
       refine wp_skip ?_
       refine thn ?_
       refine sqB u s [] [] [(2, i6 0)] ?_; intro bZ bp; clear u
       refine wp_ret ?_
       refine ra1 bp (i6 0) ?_
       exact ⟨0, rfl, bo, s.below⟩

end Go.Proofs.YtmbdcehmeiiaoaaGreatDoor
set_option linter.unusedVariables false
set_option linter.unusedSimpArgs false
set_option maxRecDepth 100000
set_option maxHeartbeats 0
namespace Go.Proofs.YtmbdcehmeiiaoaaGreatDoor
open Go.Sy Go.RowKit
abbrev e24Rb (X : Frame) (A0 : Option Addr) (C0 : Nat) : List Value := [i6 X.ID, .bool X.Long, .bool X.Fast, .bool X.Remote, i6 X.Size, .slice A0 X.Data.length C0]
theorem rofb_fun (u0 : List Int) (hpre : (∀ x ∈ u0, 0 ≤ x ∧ x ≤ 255) ∧ u0.length ≤ 1000) (ao1 : Option Addr) (cap2 : Nat) (Z : Fz) (w : World) (hs3 : SlR t8 Z ao1 cap2 u0) (hg5 : SlR t8 Z (sm 5) 64 deBruijn64) (hZ : Z.on w) : Calls Tryz.prog 90 #[.slice ao1 u0.length cap2] w fun e w' => e = .returned (str (ofb u0)) ∧ Below w.heap.size w w' :=
  (rofb_walk u0 ao1 cap2 Z w hs3 hg5 hZ (rofb_ok u0 hpre)).mono fun _ _ ⟨r, he, hk, hb⟩ => ⟨by subst hk; exact he, hb⟩

theorem rname_fun (u0 : Frame) (hpre : fcheckfr u0 = 0) (ao1 : Option Addr) (cap2 : Nat) (Z : Fz) (w : World) (hs3 : SlR t8 Z ao1 cap2 u0.Data) (hg5 : SlR t8 Z (sm 5) 64 deBruijn64) (hZ : Z.on w) : Calls Tryz.prog 20 #[.agg #[i6 u0.ID, .bool u0.Long, .bool u0.Fast, .bool u0.Remote, i6 u0.Size, .slice ao1 u0.Data.length cap2]] w fun e w' => e = .returned (str (fnameS u0)) ∧ Below w.heap.size w w' :=
  (rname_walk u0 ao1 cap2 Z w hs3 hg5 hZ (rname_ok u0 hpre)).mono fun _ _ ⟨r, he, hk, hb⟩ => ⟨by subst hk; exact he, hb⟩

theorem rcheckfr_fun (u0 : Frame) (ao1 : Option Addr) (cap2 : Nat) (Z : Fz) (w : World) (hs3 : SlR t8 Z ao1 cap2 u0.Data) (hZ : Z.on w) : Calls Tryz.prog 17 #[.agg #[i6 u0.ID, .bool u0.Long, .bool u0.Fast, .bool u0.Remote, i6 u0.Size, .slice ao1 u0.Data.length cap2]] w fun e w' => e = .returned (i6 (fcheckfr u0)) ∧ Below w.heap.size w w' :=
  (rcheckfr_walk u0 ao1 cap2 Z w hs3 hZ (rcheckfr_ok u0)).mono fun _ _ ⟨r, he, hk, hb⟩ => ⟨by subst hk; exact he, hb⟩

theorem rhead_walk (u0 : Frame) (ao1 : Option Addr) (cap2 : Nat) (Z : Fz) (w : World) (hs3 : SlR t8 Z ao1 cap2 u0.Data) (hg5 : SlR t8 Z (sm 5) 64 deBruijn64) (hZ : Z.on w) {K : (List UInt8) → Prop} (hp : rhead_vc u0 K) : Calls Tryz.prog 60 #[.agg #[i6 u0.ID, .bool u0.Long, .bool u0.Fast, .bool u0.Remote, i6 u0.Size, .slice ao1 u0.Data.length cap2]] w fun e w' => ∃ r : (List UInt8), e = .returned (str r) ∧ K r ∧ Below w.heap.size w w' := by
 refine enter0 Tryz.func60 rfl rfl (by kernel_rfl) ?_; intro a0 W; have X := Mem.start w Z hZ; have b := Fz.le.refl Z
 have ci := hp (hs3.small); clear hp
 refine sqH ?_; intro cj Y
 refine nw W X pb (e24Rb u0 ao1 cap2) 24 ?_; intro c a7 eb aa u; clear W X
 refine s1 aa 2 (str []) ?_; intro ec ab; clear aa
 refine nlH (Y _ _ ?_); clear Y cj
 refine sqH ?_; intro cl ac
 refine l2 ab u 7 0 0 6 (e24Rb u0 ao1 cap2) rfl rfl ?_; intro ed ad; clear ab
 obtain ⟨cm, cn⟩ := ci
 refine fc ad u (rname_fun u0 cm ao1 cap2 _ _ hs3 hg5 u.fz) ?_; intro ee ef ae a; clear ad u
 obtain ⟨co, v⟩ := cn
 refine sa ae co ?_; intro eg af; clear ae
 refine s1 af 3 (str (([48] : List UInt8) ++ (fnameS u0))) ?_; intro eh ag; clear af
 refine nlH (ac _ _ ?_); clear ac cl
 refine wp_seq ?_
 refine sqB ag a [0] [] [(11, .bool u0.Fast)] ?_; intro ei n; clear ag
 refine cd n (t := u0.Fast) (by kernel_rfl) (fun L => ?_) (fun L => ?_)
 · -- yes
  have cp := v.1 L; clear v
  refine rgH ?_; intro cq ah
  refine s1 n 12 (str (([48] : List UInt8) ++ (fnameS u0))) ?_; intro ej ai; clear n
  obtain ⟨cr, x⟩ := cp
  refine sa ai cr ?_; intro ek aj; clear ai
  refine s1 aj 3 (str ((([48] : List UInt8) ++ (fnameS u0)) ++ ([49, 48, 49, 48] : List UInt8))) ?_; intro el ak; clear aj
  refine nlH (ah _ _ ?_); clear ah cq
  refine thn ?_
  refine sqB ak a [0] [] [(4, i6 u0.Size)] ?_; intro em al; clear ak
  refine wp_seq ?_
  refine sqB al a [0] [] [(24, .bool (!u0.Remote))] ?_; intro cs o; clear al
  refine cd o (t := !u0.Remote) (by kernel_rfl) (fun M => ?_) (fun M => ?_)
  · -- yes
   have ct := x.1 M; clear x
   have am : Fr 42 [] [⟨1, [], pt c 0⟩, ⟨3, [], str ((([48] : List UInt8) ++ (fnameS u0)) ++ ([49, 48, 49, 48] : List UInt8))⟩] cs := o.region (by kernel_rfl) (by kernel_rfl); clear o
   refine rgS mixed a [(1, true), (2, true), (3, true), (0, false), (4, false), (5, true)] [] [0] [.row c (e24Rb u0 ao1 cap2) 24] ?_
   intro cu an en N; clear a
   have d := Fz.le.refl Z
   refine cS am 3 [0] [] [(28, i6 (u0.Data.length : Int))] ?_; intro eo ao; clear am
   refine eS rfl ?_; intro cv ap
   refine ck ao 48 #[] ?_
   refine (rsizes_fun  _ _ N.fz).mono ?_; rintro _ aq ⟨ar, au, cw, rfl, hm⟩; refine ⟨_, rfl, ?_⟩; intro ep av; have aw := N.callZ hm; have y := hm.ext.le; clear hm N ao
   replace hs3 := hs3.mono y
   replace hg5 := hg5.mono y
   replace d := d.mono y
   replace b := Fz.le.trans b y
   have ax : Mem w.heap.size [] w Z [.own t6 3 ar au rsizes, .row c (e24Rb u0 ao1 cap2) 24] cw aq := aw; clear aw
   refine nl (qnI (ap _ _ (ax.cst d [1]) ?_)); clear ap cv
   refine eS rfl ?_; intro cx ay
   obtain ⟨cy, z, az, cz⟩ := ax.freeze 0 rfl
   replace hs3 := hs3.mono z
   replace hg5 := hg5.mono z
   replace d := d.mono z
   replace b := Fz.le.trans b z
   have O : Mem w.heap.size [] w Z [.row c (e24Rb u0 ao1 cap2) 24] cy aq := az; clear az
   refine fc av O (sindex_fun rsizes (u0.Data.length : Int) ar au _ _ cz O.fz) ?_; intro eq er aA A; clear av O
   refine nl (qnI (ay _ _ (A.cst d [0]) ?_)); clear ay cx
   refine cS aA 1 [] [] [(4, i6 (sindexS rsizes (u0.Data.length : Int)))] ?_; intro es aB; clear aA
   refine nS (an _ _ ?_); clear an cu
   refine thn ?_
   refine sqH ?_; intro cA aC
   refine s1 aB 31 (i6 (sindexS rsizes (u0.Data.length : Int))) ?_; intro et aD; clear aB
   obtain ⟨cB, cC⟩ := ct
   refine fc aD A (rrow_fun (sindexS rsizes (u0.Data.length : Int)) 4 cB _ _ hg5 A.fz) ?_; intro eu ev aE f; clear aD A
   refine bt aE f 5 [] [] [(5, str (rrowS (sindexS rsizes (u0.Data.length : Int)) 4).1)] ?_; intro ew aF; clear aE
   refine nlH (aC _ _ ?_); clear aC cA
   refine sqH ?_; intro cD aG
   refine bt aF f 2 [] [] [(35, str ((([48] : List UInt8) ++ (fnameS u0)) ++ ([49, 48, 49, 48] : List UInt8))), (36, str (rrowS (sindexS rsizes (u0.Data.length : Int)) 4).1)] ?_; intro ex aH; clear aF
   obtain ⟨cE, cF⟩ := cC
   refine sa aH cE ?_; intro ey aI; clear aH
   refine bt aI f 2 [0] [] [(39, .slice ao1 u0.Data.length cap2)] ?_; intro ez aJ; clear aI
   obtain ⟨cG, cH⟩ := cF
   refine fc aJ f (rofb_fun u0.Data cG ao1 cap2 _ _ hs3 hg5 f.fz) ?_; intro eA eB aK cI; clear aJ f
   obtain ⟨cJ, cK⟩ := cH
   refine sa aK cJ ?_; intro eC aL; clear aK
   refine s1 aL 2 (str ((((([48] : List UInt8) ++ (fnameS u0)) ++ ([49, 48, 49, 48] : List UInt8)) ++ (rrowS (sindexS rsizes (u0.Data.length : Int)) 4).1) ++ (ofb u0.Data))) ?_; intro eD cL; clear aL
   refine nlH (aG _ _ ?_); clear aG cD
   refine wp_ret ?_
   refine ra1 cL (str ((((([48] : List UInt8) ++ (fnameS u0)) ++ ([49, 48, 49, 48] : List UInt8)) ++ (rrowS (sindexS rsizes (u0.Data.length : Int)) 4).1) ++ (ofb u0.Data))) ?_
   exact ⟨(((([48] : List UInt8) ++ (fnameS u0)) ++ ([49, 48, 49, 48] : List UInt8)) ++ (rrowS (sindexS rsizes (u0.Data.length : Int)) 4).1) ++ (ofb u0.Data), rfl, cK, cI.below⟩
  · -- no
   have cM := x.2 M; clear x
   refine wp_skip ?_
   refine thn ?_
   refine sqH ?_; intro cN aM
   refine s1 o 31 (i6 u0.Size) ?_; intro eE aN; clear o
   obtain ⟨cO, cP⟩ := cM
   refine fc aN a (rrow_fun u0.Size 4 cO _ _ hg5 a.fz) ?_; intro eF eG aO g; clear aN a
   refine bt aO g 5 [] [] [(5, str (rrowS u0.Size 4).1)] ?_; intro eH aP; clear aO
   refine nlH (aM _ _ ?_); clear aM cN
   refine sqH ?_; intro cQ aQ
   refine bt aP g 2 [] [] [(35, str ((([48] : List UInt8) ++ (fnameS u0)) ++ ([49, 48, 49, 48] : List UInt8))), (36, str (rrowS u0.Size 4).1)] ?_; intro eI aR; clear aP
   obtain ⟨cR, cT⟩ := cP
   refine sa aR cR ?_; intro eJ aS; clear aR
   refine bt aS g 2 [0] [] [(39, .slice ao1 u0.Data.length cap2)] ?_; intro eK aT; clear aS
   obtain ⟨cU, cV⟩ := cT
   refine fc aT g (rofb_fun u0.Data cU ao1 cap2 _ _ hs3 hg5 g.fz) ?_; intro eL eM aU cW; clear aT g
   obtain ⟨cX, cY⟩ := cV
   refine sa aU cX ?_; intro eN aV; clear aU
   refine s1 aV 2 (str ((((([48] : List UInt8) ++ (fnameS u0)) ++ ([49, 48, 49, 48] : List UInt8)) ++ (rrowS u0.Size 4).1) ++ (ofb u0.Data))) ?_; intro eO cZ; clear aV
   refine nlH (aQ _ _ ?_); clear aQ cQ
   refine wp_ret ?_
   refine ra1 cZ (str ((((([48] : List UInt8) ++ (fnameS u0)) ++ ([49, 48, 49, 48] : List UInt8)) ++ (rrowS u0.Size 4).1) ++ (ofb u0.Data))) ?_
   exact ⟨(((([48] : List UInt8) ++ (fnameS u0)) ++ ([49, 48, 49, 48] : List UInt8)) ++ (rrowS u0.Size 4).1) ++ (ofb u0.Data), rfl, cY, cW.below⟩
 · -- no
  have B := v.2 L; clear v
  refine sqB n a [0] [] [(15, .bool u0.Long)] ?_; intro eP p; clear n
  refine cd p (t := u0.Long) (by kernel_rfl) (fun P => ?_) (fun P => ?_)
  · -- yes
   have c0 := B.1 P; clear B
   refine rgH ?_; intro c1 aW
   refine s1 p 16 (str (([48] : List UInt8) ++ (fnameS u0))) ?_; intro eQ aX; clear p
   obtain ⟨c2, C⟩ := c0
   refine sa aX c2 ?_; intro eR aY; clear aX
   refine s1 aY 3 (str ((([48] : List UInt8) ++ (fnameS u0)) ++ ([48, 48] : List UInt8))) ?_; intro eT aZ; clear aY
   refine nlH (aW _ _ ?_); clear aW c1
   refine thn ?_
   refine sqB aZ a [0] [] [(4, i6 u0.Size)] ?_; intro eU a1; clear aZ
   refine wp_seq ?_
   refine sqB a1 a [0] [] [(24, .bool (!u0.Remote))] ?_; intro c3 q; clear a1
   refine cd q (t := !u0.Remote) (by kernel_rfl) (fun Q => ?_) (fun Q => ?_)
   · -- yes
    have c4 := C.1 Q; clear C
    have a2 : Fr 42 [] [⟨1, [], pt c 0⟩, ⟨3, [], str ((([48] : List UInt8) ++ (fnameS u0)) ++ ([48, 48] : List UInt8))⟩] c3 := q.region (by kernel_rfl) (by kernel_rfl); clear q
    refine rgS mixed a [(1, true), (2, true), (3, true), (0, false), (4, false), (5, true)] [] [0] [.row c (e24Rb u0 ao1 cap2) 24] ?_
    intro c5 a3 eV R; clear a
    have h := Fz.le.refl Z
    refine cS a2 3 [0] [] [(28, i6 (u0.Data.length : Int))] ?_; intro eW a4; clear a2
    refine eS rfl ?_; intro c6 a5
    refine ck a4 48 #[] ?_
    refine (rsizes_fun  _ _ R.fz).mono ?_; rintro _ a6 ⟨a8, a9, c7, rfl, hm⟩; refine ⟨_, rfl, ?_⟩; intro eX ba; have bb := R.callZ hm; have D := hm.ext.le; clear hm R a4
    replace hs3 := hs3.mono D
    replace hg5 := hg5.mono D
    replace h := h.mono D
    replace b := Fz.le.trans b D
    have bc : Mem w.heap.size [] w Z [.own t6 3 a8 a9 rsizes, .row c (e24Rb u0 ao1 cap2) 24] c7 a6 := bb; clear bb
    refine nl (qnI (a5 _ _ (bc.cst h [1]) ?_)); clear a5 c6
    refine eS rfl ?_; intro c8 bd
    obtain ⟨c9, E, be, da⟩ := bc.freeze 0 rfl
    replace hs3 := hs3.mono E
    replace hg5 := hg5.mono E
    replace h := h.mono E
    replace b := Fz.le.trans b E
    have S : Mem w.heap.size [] w Z [.row c (e24Rb u0 ao1 cap2) 24] c9 a6 := be; clear be
    refine fc ba S (sindex_fun rsizes (u0.Data.length : Int) a8 a9 _ _ da S.fz) ?_; intro eY eZ bf F; clear ba S
    refine nl (qnI (bd _ _ (F.cst h [0]) ?_)); clear bd c8
    refine cS bf 1 [] [] [(4, i6 (sindexS rsizes (u0.Data.length : Int)))] ?_; intro e0 bg; clear bf
    refine nS (a3 _ _ ?_); clear a3 c5
    refine thn ?_
    refine sqH ?_; intro db bh
    refine s1 bg 31 (i6 (sindexS rsizes (u0.Data.length : Int))) ?_; intro e1 bi; clear bg
    obtain ⟨dc, dd⟩ := c4
    refine fc bi F (rrow_fun (sindexS rsizes (u0.Data.length : Int)) 4 dc _ _ hg5 F.fz) ?_; intro e2 e3 bj i; clear bi F
    refine bt bj i 5 [] [] [(5, str (rrowS (sindexS rsizes (u0.Data.length : Int)) 4).1)] ?_; intro e4 bk; clear bj
    refine nlH (bh _ _ ?_); clear bh db
    refine sqH ?_; intro de bl
    refine bt bk i 2 [] [] [(35, str ((([48] : List UInt8) ++ (fnameS u0)) ++ ([48, 48] : List UInt8))), (36, str (rrowS (sindexS rsizes (u0.Data.length : Int)) 4).1)] ?_; intro e5 bm; clear bk
    obtain ⟨df, dg⟩ := dd
    refine sa bm df ?_; intro e6 bn; clear bm
    refine bt bn i 2 [0] [] [(39, .slice ao1 u0.Data.length cap2)] ?_; intro e7 bo; clear bn
    obtain ⟨dh, di⟩ := dg
    refine fc bo i (rofb_fun u0.Data dh ao1 cap2 _ _ hs3 hg5 i.fz) ?_; intro e8 e9 bp dj; clear bo i
    obtain ⟨dk, dl⟩ := di
    refine sa bp dk ?_; intro fa bq; clear bp
    refine s1 bq 2 (str ((((([48] : List UInt8) ++ (fnameS u0)) ++ ([48, 48] : List UInt8)) ++ (rrowS (sindexS rsizes (u0.Data.length : Int)) 4).1) ++ (ofb u0.Data))) ?_; intro fb dm; clear bq
    refine nlH (bl _ _ ?_); clear bl de
    refine wp_ret ?_
    refine ra1 dm (str ((((([48] : List UInt8) ++ (fnameS u0)) ++ ([48, 48] : List UInt8)) ++ (rrowS (sindexS rsizes (u0.Data.length : Int)) 4).1) ++ (ofb u0.Data))) ?_
    exact ⟨(((([48] : List UInt8) ++ (fnameS u0)) ++ ([48, 48] : List UInt8)) ++ (rrowS (sindexS rsizes (u0.Data.length : Int)) 4).1) ++ (ofb u0.Data), rfl, dl, dj.below⟩
   · -- no
    have dn := C.2 Q; clear C
    refine wp_skip ?_
    refine thn ?_
    refine sqH ?_; intro dp br
    refine s1 q 31 (i6 u0.Size) ?_; intro fd bs; clear q
    obtain ⟨dq, dr⟩ := dn
    refine fc bs a (rrow_fun u0.Size 4 dq _ _ hg5 a.fz) ?_; intro fe ff bu j; clear bs a
    refine bt bu j 5 [] [] [(5, str (rrowS u0.Size 4).1)] ?_; intro fg bv; clear bu
    refine nlH (br _ _ ?_); clear br dp
    refine sqH ?_; intro ds bw
    refine bt bv j 2 [] [] [(35, str ((([48] : List UInt8) ++ (fnameS u0)) ++ ([48, 48] : List UInt8))), (36, str (rrowS u0.Size 4).1)] ?_; intro fh bx; clear bv
    obtain ⟨dt, du⟩ := dr
    refine sa bx dt ?_; intro fi bz; clear bx
    refine bt bz j 2 [0] [] [(39, .slice ao1 u0.Data.length cap2)] ?_; intro fj bA; clear bz
    obtain ⟨dv, dw⟩ := du
    refine fc bA j (rofb_fun u0.Data dv ao1 cap2 _ _ hs3 hg5 j.fz) ?_; intro fk fl bB dx; clear bA j
    obtain ⟨dy, dz⟩ := dw
    refine sa bB dy ?_; intro fm bC; clear bB
    refine s1 bC 2 (str ((((([48] : List UInt8) ++ (fnameS u0)) ++ ([48, 48] : List UInt8)) ++ (rrowS u0.Size 4).1) ++ (ofb u0.Data))) ?_; intro fn dA; clear bC
    refine nlH (bw _ _ ?_); clear bw ds
    refine wp_ret ?_
    refine ra1 dA (str ((((([48] : List UInt8) ++ (fnameS u0)) ++ ([48, 48] : List UInt8)) ++ (rrowS u0.Size 4).1) ++ (ofb u0.Data))) ?_
    exact ⟨(((([48] : List UInt8) ++ (fnameS u0)) ++ ([48, 48] : List UInt8)) ++ (rrowS u0.Size 4).1) ++ (ofb u0.Data), rfl, dz, dx.below⟩
  · -- no
   have dB := B.2 P; clear B
   refine rgH ?_; intro dC bD
   refine s1 p 18 (str (([48] : List UInt8) ++ (fnameS u0))) ?_; intro fo bE; clear p
   obtain ⟨dD, G⟩ := dB
   refine sa bE dD ?_; intro fp bF; clear bE
   refine s1 bF 3 (str ((([48] : List UInt8) ++ (fnameS u0)) ++ ([48] : List UInt8))) ?_; intro fq bG; clear bF
   refine nlH (bD _ _ ?_); clear bD dC
   refine thn ?_
   refine sqB bG a [0] [] [(4, i6 u0.Size)] ?_; intro fr bH; clear bG
   refine wp_seq ?_
   refine sqB bH a [0] [] [(24, .bool (!u0.Remote))] ?_; intro dE s; clear bH
   refine cd s (t := !u0.Remote) (by kernel_rfl) (fun T => ?_) (fun T => ?_)
   · -- yes
    have dF := G.1 T; clear G
    have bI : Fr 42 [] [⟨1, [], pt c 0⟩, ⟨3, [], str ((([48] : List UInt8) ++ (fnameS u0)) ++ ([48] : List UInt8))⟩] dE := s.region (by kernel_rfl) (by kernel_rfl); clear s
    refine rgS mixed a [(1, true), (2, true), (3, true), (0, false), (4, false), (5, true)] [] [0] [.row c (e24Rb u0 ao1 cap2) 24] ?_
    intro dG bJ fs U; clear a
    have k := Fz.le.refl Z
    refine cS bI 3 [0] [] [(28, i6 (u0.Data.length : Int))] ?_; intro ft bK; clear bI
    refine eS rfl ?_; intro dH bL
    refine ck bK 48 #[] ?_
    refine (rsizes_fun  _ _ U.fz).mono ?_; rintro _ bM ⟨bN, bO, dI, rfl, hm⟩; refine ⟨_, rfl, ?_⟩; intro fu bP; have bQ := U.callZ hm; have H := hm.ext.le; clear hm U bK
    replace hs3 := hs3.mono H
    replace hg5 := hg5.mono H
    replace k := k.mono H
    replace b := Fz.le.trans b H
    have bR : Mem w.heap.size [] w Z [.own t6 3 bN bO rsizes, .row c (e24Rb u0 ao1 cap2) 24] dI bM := bQ; clear bQ
    refine nl (qnI (bL _ _ (bR.cst k [1]) ?_)); clear bL dH
    refine eS rfl ?_; intro dJ bS
    obtain ⟨dK, I, bT, dL⟩ := bR.freeze 0 rfl
    replace hs3 := hs3.mono I
    replace hg5 := hg5.mono I
    replace k := k.mono I
    replace b := Fz.le.trans b I
    have V : Mem w.heap.size [] w Z [.row c (e24Rb u0 ao1 cap2) 24] dK bM := bT; clear bT
    refine fc bP V (sindex_fun rsizes (u0.Data.length : Int) bN bO _ _ dL V.fz) ?_; intro fv fw bU J; clear bP V
    refine nl (qnI (bS _ _ (J.cst k [0]) ?_)); clear bS dJ
    refine cS bU 1 [] [] [(4, i6 (sindexS rsizes (u0.Data.length : Int)))] ?_; intro fx bV; clear bU
    refine nS (bJ _ _ ?_); clear bJ dG
    refine thn ?_
    refine sqH ?_; intro dM bW
    refine s1 bV 31 (i6 (sindexS rsizes (u0.Data.length : Int))) ?_; intro fy bX; clear bV
    obtain ⟨dN, dO⟩ := dF
    refine fc bX J (rrow_fun (sindexS rsizes (u0.Data.length : Int)) 4 dN _ _ hg5 J.fz) ?_; intro fA fB bY l; clear bX J
    refine bt bY l 5 [] [] [(5, str (rrowS (sindexS rsizes (u0.Data.length : Int)) 4).1)] ?_; intro fC bZ; clear bY
    refine nlH (bW _ _ ?_); clear bW dM
    refine sqH ?_; intro dP b0
    refine bt bZ l 2 [] [] [(35, str ((([48] : List UInt8) ++ (fnameS u0)) ++ ([48] : List UInt8))), (36, str (rrowS (sindexS rsizes (u0.Data.length : Int)) 4).1)] ?_; intro fD b1; clear bZ
    obtain ⟨dQ, dR⟩ := dO
    refine sa b1 dQ ?_; intro fE b2; clear b1
    refine bt b2 l 2 [0] [] [(39, .slice ao1 u0.Data.length cap2)] ?_; intro fF b3; clear b2
    obtain ⟨dS, dT⟩ := dR
    refine fc b3 l (rofb_fun u0.Data dS ao1 cap2 _ _ hs3 hg5 l.fz) ?_; intro fG fH b4 dU; clear b3 l
    obtain ⟨dV, dW⟩ := dT
    refine sa b4 dV ?_; intro fI b5; clear b4
    refine s1 b5 2 (str ((((([48] : List UInt8) ++ (fnameS u0)) ++ ([48] : List UInt8)) ++ (rrowS (sindexS rsizes (u0.Data.length : Int)) 4).1) ++ (ofb u0.Data))) ?_; intro fJ dX; clear b5
    refine nlH (b0 _ _ ?_); clear b0 dP
    refine wp_ret ?_
    refine ra1 dX (str ((((([48] : List UInt8) ++ (fnameS u0)) ++ ([48] : List UInt8)) ++ (rrowS (sindexS rsizes (u0.Data.length : Int)) 4).1) ++ (ofb u0.Data))) ?_
    exact ⟨(((([48] : List UInt8) ++ (fnameS u0)) ++ ([48] : List UInt8)) ++ (rrowS (sindexS rsizes (u0.Data.length : Int)) 4).1) ++ (ofb u0.Data), rfl, dW, dU.below⟩
   · -- no
    have dY := G.2 T; clear G
    refine wp_skip ?_
    refine thn ?_
    refine sqH ?_; intro dZ b7
    refine s1 s 31 (i6 u0.Size) ?_; intro fK b8; clear s
    obtain ⟨d0, d1⟩ := dY
    refine fc b8 a (rrow_fun u0.Size 4 d0 _ _ hg5 a.fz) ?_; intro fL fM b9 m; clear b8 a
    refine bt b9 m 5 [] [] [(5, str (rrowS u0.Size 4).1)] ?_; intro fN ca; clear b9
    refine nlH (b7 _ _ ?_); clear b7 dZ
    refine sqH ?_; intro d2 cb
    refine bt ca m 2 [] [] [(35, str ((([48] : List UInt8) ++ (fnameS u0)) ++ ([48] : List UInt8))), (36, str (rrowS u0.Size 4).1)] ?_; intro fO cc; clear ca
    obtain ⟨d3, d4⟩ := d1
    refine sa cc d3 ?_; intro fP ce; clear cc
    refine bt ce m 2 [0] [] [(39, .slice ao1 u0.Data.length cap2)] ?_; intro fQ cf; clear ce
    obtain ⟨d5, d6⟩ := d4
    refine fc cf m (rofb_fun u0.Data d5 ao1 cap2 _ _ hs3 hg5 m.fz) ?_; intro fR fS cg d7; clear cf m
    obtain ⟨d8, d9⟩ := d6
    refine sa cg d8 ?_; intro fT ch; clear cg
    refine s1 ch 2 (str ((((([48] : List UInt8) ++ (fnameS u0)) ++ ([48] : List UInt8)) ++ (rrowS u0.Size 4).1) ++ (ofb u0.Data))) ?_; intro fU ea; clear ch
    refine nlH (cb _ _ ?_); clear cb d2
    refine wp_ret ?_
    refine ra1 ea (str ((((([48] : List UInt8) ++ (fnameS u0)) ++ ([48] : List UInt8)) ++ (rrowS u0.Size 4).1) ++ (ofb u0.Data))) ?_
    exact ⟨(((([48] : List UInt8) ++ (fnameS u0)) ++ ([48] : List UInt8)) ++ (rrowS u0.Size 4).1) ++ (ofb u0.Data), rfl, d9, d7.below⟩

theorem rlmost_walk (u0 : Int)  (Z : Fz) (w : World)  (hZ : Z.on w) {K : Int → Prop} (hp : rlmost_vc u0 K) : Calls Tryz.prog 64 #[i6 u0] w fun e w' => ∃ r : Int, e = .returned (i6 r) ∧ K r ∧ Below w.heap.size w w' := by
 refine enter0 Tryz.func64 rfl rfl (by kernel_rfl) ?_; intro f b; have a := Mem.start w Z hZ; have g := Fz.le.refl Z
 refine sqB b a [] [] [] ?_; intro h c; clear b
 refine sqB c a [] [] [(2, i6 (w64 (u0 + (w64 ((w64 (u0 - 1)).tdiv 4)))))] ?_; intro i d; clear c
 refine wp_ret ?_
 refine ra1 d (i6 (w64 (u0 + (w64 ((w64 (u0 - 1)).tdiv 4))))) ?_
 exact ⟨w64 (u0 + (w64 ((w64 (u0 - 1)).tdiv 4))), rfl, hp, a.below⟩
theorem rlmost_fun (u0 : Int)  (Z : Fz) (w : World)  (hZ : Z.on w) : Calls Tryz.prog 64 #[i6 u0] w fun e w' => e = .returned (i6 (rlmost u0)) ∧ Below w.heap.size w w' :=
  (rlmost_walk u0  Z w  hZ (rlmost_ok u0)).mono fun _ _ ⟨r, he, hk, hb⟩ => ⟨by subst hk; exact he, hb⟩

end Go.Proofs.YtmbdcehmeiiaoaaGreatDoor
set_option linter.unusedVariables false
set_option linter.unusedSimpArgs false
set_option maxRecDepth 100000
set_option maxHeartbeats 0
namespace Go.Proofs.YtmbdcehmeiiaoaaGreatDoor
open Go.Sy Go.RowKit
theorem rhead_fun (u0 : Frame) (hpre : fcheckfr u0 = 0 ∧ ∀ x ∈ u0.Data, 0 ≤ x ∧ x ≤ 255) (ao1 : Option Addr) (cap2 : Nat) (Z : Fz) (w : World) (hs3 : SlR t8 Z ao1 cap2 u0.Data) (hg5 : SlR t8 Z (sm 5) 64 deBruijn64) (hZ : Z.on w) : Calls Tryz.prog 60 #[.agg #[i6 u0.ID, .bool u0.Long, .bool u0.Fast, .bool u0.Remote, i6 u0.Size, .slice ao1 u0.Data.length cap2]] w fun e w' => e = .returned (str (fheadS u0)) ∧ Below w.heap.size w w' :=
  (rhead_walk u0 ao1 cap2 Z w hs3 hg5 hZ (rhead_ok u0 hpre)).mono fun _ _ ⟨r, he, hk, hb⟩ => ⟨by subst hk; exact he, hb⟩

theorem rlong_walk (u0 : Bool) (u1 : Bool) (u2 : Int)  (Z : Fz) (w : World) (hg5 : SlR t8 Z (sm 5) 64 deBruijn64) (hZ : Z.on w) {K : Int → Prop} (hp : rlong_vc u0 u1 u2 K) : Calls Tryz.prog 23 #[.bool u0, .bool u1, i6 u2] w fun e w' => ∃ r : Int, e = .returned (i6 r) ∧ K r ∧ Below w.heap.size w w' := by
 refine enter0 Tryz.func23 rfl rfl (by kernel_rfl) ?_; intro a0 m; have d := Mem.start w Z hZ; have n := Fz.le.refl Z
 refine sqB m d [] [] [] ?_; intro a2 o; clear m
 refine sqH ?_; intro U p
 refine bt o d 3 [] [] [(10, .bool u0), (11, .bool u1), (12, i6 u2)] ?_; intro a9 q; clear o
 obtain ⟨ak, V⟩ := hp
 refine mks q d (T := t8) u2 u2 (k := .i64) (k' := .i64) (e := 5) (bytes := 1) (zs := [y8 0]) (z := 0) (by simp only [lim]; omega) (nog rfl _) rfl (by kernel_rfl) rfl (by kernel_rfl) (by kernel_rfl) (by kernel_rfl) (by kernel_rfl) rfl ?_; intro h al s u v; clear q d
 have W : Mem w.heap.size [] w Z [.own t8 5 (sm h) u2.toNat (List.replicate u2.toNat (0 : Int))] Z s := v; clear v
 refine s1 u 14 (.agg #[i6 0, .bool u0, .bool u1, .bool false, i6 0, .slice (sm h) (List.replicate u2.toNat (0 : Int)).length u2.toNat]) ?_; intro am x; clear u
 obtain ⟨X, y, A, Y⟩ := W.freeze 0 rfl
 replace hg5 := hg5.mono y
 replace n := Fz.le.trans n y
 have i : Mem w.heap.size [] w Z [] X s := A; clear A
 obtain ⟨aa, f⟩ := V
 refine fc x i (rhead_fun (⟨0, u0, u1, false, 0, (List.replicate u2.toNat (0 : Int))⟩ : Frame) aa (sm h) u2.toNat _ _ Y hg5 i.fz) ?_; intro an ao B a; clear x i
 refine bt B a 2 [] [] [(7, i6 ((fheadS (⟨0, u0, u1, false, 0, (List.replicate u2.toNat (0 : Int))⟩ : Frame)).length : Int))] ?_; intro ap C; clear B
 refine nlH (p _ _ ?_); clear p U
 refine sqB C a [] [] [(8, .func (.func 64) #[] #[])] ?_; intro aq D; clear C
 refine wp_seq ?_
 refine sqB D a [] [] [(18, .bool (!u1))] ?_; intro ar b; clear D
 refine cd b (t := !u1) (by kernel_rfl) (fun j => ?_) (fun j => ?_)
 · -- yes
  have ab := f.1 j; clear f
  refine sqH ?_; intro ac E
  refine bt b a 3 [] [] [(19, .func (.func 64) #[] #[]), (21, i6 (w64 (((fheadS (⟨0, u0, u1, false, 0, (List.replicate u2.toNat (0 : Int))⟩ : Frame)).length : Int) + 15)))] ?_; intro au F; clear b
  refine fc F a (rlmost_fun (w64 (((fheadS (⟨0, u0, u1, false, 0, (List.replicate u2.toNat (0 : Int))⟩ : Frame)).length : Int) + 15)) _ _ a.fz) ?_; intro av aw G H; clear F a
  refine bt G H 2 [] [] [(6, i6 (w64 ((rlmost (w64 (((fheadS (⟨0, u0, u1, false, 0, (List.replicate u2.toNat (0 : Int))⟩ : Frame)).length : Int) + 15))) + 10)))] ?_; intro ax ad; clear G
  refine nlH (E _ _ ?_); clear E ac
  refine wp_ret ?_
  refine thr ?_
  refine ra1 ad (i6 (w64 ((rlmost (w64 (((fheadS (⟨0, u0, u1, false, 0, (List.replicate u2.toNat (0 : Int))⟩ : Frame)).length : Int) + 15))) + 10))) ?_
  exact ⟨w64 ((rlmost (w64 (((fheadS (⟨0, u0, u1, false, 0, (List.replicate u2.toNat (0 : Int))⟩ : Frame)).length : Int) + 15))) + 10), rfl, ab, H.below⟩
 · -- no
  have g := f.2 j; clear f
  refine wp_skip ?_
  refine thn ?_
  refine sqB b a [] [] [(9, i6 21)] ?_; intro ay I; clear b
  refine wp_seq ?_
  refine sqB I a [] [] [(25, .bool (decide (u2 > 16)))] ?_; intro az c; clear I
  refine cd c (t := decide (u2 > 16)) (by kernel_rfl) (fun l => ?_) (fun l => ?_)
  · -- yes
   have ae := g.1 l; clear g
   refine rgB c a [] [] [(9, i6 25)] ?_; intro aA J; clear c
   refine thn ?_
   refine sqH ?_; intro af L
   refine bt J a 2 [] [] [(26, .func (.func 64) #[] #[]), (27, i6 ((fheadS (⟨0, u0, u1, false, 0, (List.replicate u2.toNat (0 : Int))⟩ : Frame)).length : Int))] ?_; intro aB M; clear J
   refine fc M a (rlmost_fun ((fheadS (⟨0, u0, u1, false, 0, (List.replicate u2.toNat (0 : Int))⟩ : Frame)).length : Int) _ _ a.fz) ?_; intro aC aD N O; clear M a
   refine bt N O 8 [] [] [(6, i6 (w64 ((w64 ((w64 ((rlmost ((fheadS (⟨0, u0, u1, false, 0, (List.replicate u2.toNat (0 : Int))⟩ : Frame)).length : Int)) + 25)) + 7)) + 10)))] ?_; intro aE ag; clear N
   refine nlH (L _ _ ?_); clear L af
   refine wp_ret ?_
   refine ra1 ag (i6 (w64 ((w64 ((w64 ((rlmost ((fheadS (⟨0, u0, u1, false, 0, (List.replicate u2.toNat (0 : Int))⟩ : Frame)).length : Int)) + 25)) + 7)) + 10))) ?_
   exact ⟨w64 ((w64 ((w64 ((rlmost ((fheadS (⟨0, u0, u1, false, 0, (List.replicate u2.toNat (0 : Int))⟩ : Frame)).length : Int)) + 25)) + 7)) + 10), rfl, ae, O.below⟩
  · -- no
   have ah := g.2 l; clear g
   refine wp_skip ?_
   refine thn ?_
   refine sqH ?_; intro ai P
   refine bt c a 2 [] [] [(26, .func (.func 64) #[] #[]), (27, i6 ((fheadS (⟨0, u0, u1, false, 0, (List.replicate u2.toNat (0 : Int))⟩ : Frame)).length : Int))] ?_; intro aF Q; clear c
   refine fc Q a (rlmost_fun ((fheadS (⟨0, u0, u1, false, 0, (List.replicate u2.toNat (0 : Int))⟩ : Frame)).length : Int) _ _ a.fz) ?_; intro aG aH R S; clear Q a
   refine bt R S 8 [] [] [(6, i6 (w64 ((w64 ((w64 ((rlmost ((fheadS (⟨0, u0, u1, false, 0, (List.replicate u2.toNat (0 : Int))⟩ : Frame)).length : Int)) + 21)) + 6)) + 10)))] ?_; intro aI aj; clear R
   refine nlH (P _ _ ?_); clear P ai
   refine wp_ret ?_
   refine ra1 aj (i6 (w64 ((w64 ((w64 ((rlmost ((fheadS (⟨0, u0, u1, false, 0, (List.replicate u2.toNat (0 : Int))⟩ : Frame)).length : Int)) + 21)) + 6)) + 10))) ?_
   exact ⟨w64 ((w64 ((w64 ((rlmost ((fheadS (⟨0, u0, u1, false, 0, (List.replicate u2.toNat (0 : Int))⟩ : Frame)).length : Int)) + 21)) + 6)) + 10), rfl, ah, S.below⟩

end Go.Proofs.YtmbdcehmeiiaoaaGreatDoor
