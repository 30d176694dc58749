/- Texts put together (pure ones, or walks made by program). -/
import Derived.Test.YtdndfbamhnchfaaKz0
import Derived.Test.YtdndfbamhnchfaaKz1
import Derived.Test.YtdndfbamhnchfaaKz2
import Derived.Shelf.Lay
import Derived.Ground.NamesProg
import Derived.Shelf.Sort.Plain
import Derived.Shelf.Slices.In.SortNone
namespace Go.Proofs
open Go.Shelf
def Try.lays189_ren : Go.Shelf.Ren := ⟨fun | 189 => 37 | 125 => 61 | 257 => 60 | 128 => 82 | 129 => 83 | 294 => 73 | 295 => 74 | 296 => 75 | 297 => 76 | 298 => 77 | 299 => 78 | 216 => 79 | 300 => 80 | 301 => 81 | 328 => 89 | 329 => 90 | 330 => 91 | 331 => 92 | 332 => 93 | 215 => 62 | 343 => 94 | n => n, fun | 28 => 33 | 3 => 3 | 46 => 106 | 0 => 0 | 51 => 112 | 53 => 115 | 4 => 4 | 183 => 119 | 182 => 118 | 131 => 124 | 5 => 5 | 9 => 9 | 218 => 133 | 222 => 137 | 228 => 139 | 229 => 97 | n => n, fun | n => n⟩
theorem Try.lays189 : Go.Proofs.Lays.n189 Try.prog Try.lays189_ren := {
  mixed := by kernel_rfl
  f125 := Try.func61.trans (congrArg some (by kernel_rfl))
  f128 := Try.func82.trans (congrArg some (by kernel_rfl))
  f129 := Try.func83.trans (congrArg some (by kernel_rfl))
  f189 := Try.func37.trans (congrArg some (by kernel_rfl))
  f215 := Try.func62.trans (congrArg some (by kernel_rfl))
  f216 := Try.func79.trans (congrArg some (by kernel_rfl))
  f257 := Try.func60.trans (congrArg some (by kernel_rfl))
  f294 := Try.func73.trans (congrArg some (by kernel_rfl))
  f295 := Try.func74.trans (congrArg some (by kernel_rfl))
  f296 := Try.func75.trans (congrArg some (by kernel_rfl))
  f297 := Try.func76.trans (congrArg some (by kernel_rfl))
  f298 := Try.func77.trans (congrArg some (by kernel_rfl))
  f299 := Try.func78.trans (congrArg some (by kernel_rfl))
  f300 := Try.func80.trans (congrArg some (by kernel_rfl))
  f301 := Try.func81.trans (congrArg some (by kernel_rfl))
  f328 := Try.func89.trans (congrArg some (by kernel_rfl))
  f329 := Try.func90.trans (congrArg some (by kernel_rfl))
  f330 := Try.func91.trans (congrArg some (by kernel_rfl))
  f331 := Try.func92.trans (congrArg some (by kernel_rfl))
  f332 := Try.func93.trans (congrArg some (by kernel_rfl))
  f343 := Try.func94.trans (congrArg some (by kernel_rfl))
  t0 := Try.underlying0
  a0 := Try.isAgg0
  z0 := Try.sizeOf0
  v0 := Try.zeroValue0
  t3 := Try.underlying3
  a3 := Try.isAgg3
  z3 := Try.sizeOf3
  v3 := Try.zeroValue3
  t4 := Try.underlying4
  a4 := Try.isAgg4
  z4 := Try.sizeOf4
  v4 := Try.zeroValue4
  t5 := Try.underlying5
  a5 := Try.isAgg5
  z5 := Try.sizeOf5
  v5 := Try.zeroValue5
  t9 := Try.underlying9
  a9 := Try.isAgg9
  z9 := Try.sizeOf9
  v9 := Try.zeroValue9
  t28 := Try.underlying33
  a28 := Try.isAgg33
  z28 := Try.sizeOf33
  v28 := Try.zeroValue33
  t46 := Try.underlying106
  a46 := Try.isAgg106
  z46 := Try.sizeOf106
  v46 := Try.zeroValue106
  t51 := Try.underlying112
  a51 := Try.isAgg112
  z51 := Try.sizeOf112
  v51 := Try.zeroValue112
  t53 := Try.underlying115
  a53 := Try.isAgg115
  z53 := Try.sizeOf115
  v53 := Try.zeroValue115
  t131 := Try.underlying124
  a131 := Try.isAgg124
  z131 := Try.sizeOf124
  v131 := Try.zeroValue124
  t182 := Try.underlying118
  a182 := Try.isAgg118
  z182 := Try.sizeOf118
  v182 := Try.zeroValue118
  t183 := Try.underlying119
  a183 := Try.isAgg119
  z183 := Try.sizeOf119
  v183 := Try.zeroValue119
  t218 := Try.underlying133
  a218 := Try.isAgg133
  z218 := Try.sizeOf133
  v218 := Try.zeroValue133
  t222 := Try.underlying137
  a222 := Try.isAgg137
  z222 := Try.sizeOf137
  v222 := Try.zeroValue137
  t228 := Try.underlying139
  a228 := Try.isAgg139
  z228 := Try.sizeOf139
  v228 := Try.zeroValue139
  t229 := Try.underlying97
  a229 := Try.isAgg97
  z229 := Try.sizeOf97
  v229 := Try.zeroValue97 }
end Go.Proofs
set_option linter.unusedVariables false
set_option linter.unusedSimpArgs false
set_option maxRecDepth 100000
set_option maxHeartbeats 0
namespace Go.Proofs.Ytdndfbamhnchfaa
open Go.Sy Go.RowKit
theorem swrite_fun (u0 : Signal) (u1 : List Int) (u2 : Int) (u3 : Int) (hpre : isBytes u1) (ao1 : Option Addr) (cap2 : Nat) (Z : Fz) (w : World) (hs3 : SlR t8 Z ao1 cap2 u1) (hZ : Z.on w) : Calls Try.prog 7 #[.agg #[str u0.Name, i6 u0.Start, i6 u0.Size, .bool u0.Back, .bool u0.Signed, i6 u0.Mul, i6 u0.Div, i6 u0.Add, i6 u0.Key], .slice ao1 u1.length cap2, i6 u2, i6 u3] w fun e w' => ∃ (ao1001 : Option Addr) (cap1002 : Nat) (Z' : Fz), e = .returned (.tuple #[.slice ao1001 (swriteS u0 u1 u2 u3).1.length cap1002, i6 (swriteS u0 u1 u2 u3).2]) ∧ Mem w.heap.size [] w Z [.own t8 5 ao1001 cap1002 (swriteS u0 u1 u2 u3).1] Z' w' :=
  (swrite_walk u0 u1 u2 u3 ao1 cap2 Z w hs3 hZ (swrite_ok u0 u1 u2 u3 hpre)).mono fun _ _ ⟨r, h0, h1, h2, he, hk, hm⟩ => by subst hk; exact ⟨h0, h1, h2, he, hm⟩

theorem sread_fun (u0 : Signal) (u1 : List Int) (hpre : isBytes u1) (ao1 : Option Addr) (cap2 : Nat) (Z : Fz) (w : World) (hs3 : SlR t8 Z ao1 cap2 u1) (hZ : Z.on w) : Calls Try.prog 9 #[.agg #[str u0.Name, i6 u0.Start, i6 u0.Size, .bool u0.Back, .bool u0.Signed, i6 u0.Mul, i6 u0.Div, i6 u0.Add, i6 u0.Key], .slice ao1 u1.length cap2] w fun e w' => e = .returned (.tuple #[i6 (sreadS u0 u1).1, .agg #[str (sreadS u0 u1).2.1.Name, i6 (sreadS u0 u1).2.1.Num, i6 (sreadS u0 u1).2.1.Den], i6 (sreadS u0 u1).2.2]) ∧ Below w.heap.size w w' :=
  (sread_walk u0 u1 ao1 cap2 Z w hs3 hZ (sread_ok u0 u1 hpre)).mono fun _ _ ⟨r, he, hk, hb⟩ => ⟨by subst hk; exact he, hb⟩

open Go Go.Sort
theorem sort_block (w : World) (blk n : Nat) (d : Array Int) (os : Array Obj) (cur : Array Value) (e : TypeId) (fr : Nat × Nat) (h : w.heap[blk]? = some (.cells cur e fr)) : (grow (putRow (Value.int .i64) (Go.Sort.ahead w n) blk 0 d) os).heap[blk]? = some (.cells (putCells (Value.int .i64) 0 d cur) e fr) := by
  have hl := (Array.getElem?_eq_some_iff.1 h).1
  have hl' : blk < (w.heap.modify blk (onCells (putCells (Value.int .i64) 0 d))).size := by rw [Array.size_modify]; exact hl
  show (w.heap.modify blk (onCells (putCells (Value.int .i64) 0 d)) ++ os)[blk]? = _
  rw [Array.getElem?_append, if_pos hl', Array.getElem?_modify, if_pos rfl, h]
  rfl
theorem sort_grown (w : World) (blk n : Nat) (d : Array Int) (os : Array Obj) : w.grownBy (grow (putRow (Value.int .i64) (Go.Sort.ahead w n) blk 0 d) os) (some blk) := by
  refine ⟨rfl, rfl, rfl, ?_, fun k hk hne => ?_⟩
  · show w.heap.size ≤ (w.heap.modify blk _ ++ os).size
    rw [Array.size_append, Array.size_modify]
    omega
  · have hl' : k < (w.heap.modify blk (onCells (putCells (Value.int .i64) 0 d))).size := by rw [Array.size_modify]; exact hk
    show (w.heap.modify blk (onCells (putCells (Value.int .i64) 0 d)) ++ os)[k]? = _
    rw [Array.getElem?_append, if_pos hl', Array.getElem?_modify, if_neg (fun h => hne (by rw [h]))]


theorem sort_cells (d : List Int) (cur : Array Value) (n cap : Nat) (hc : cur.size = cap) (hd : d.length ≤ cap) : ((putCells (Value.int .i64) 0 d.toArray cur).toList.take d.length) = d.map (Value.int .i64) := by
  apply List.ext_getElem?
  intro k
  rw [List.getElem?_take, List.getElem?_map]
  by_cases hk : k < d.length
  · rw [if_pos hk, List.getElem?_eq_getElem hk, Array.getElem?_toList]
    unfold putCells
    rw [Array.getElem?_mapIdx, Array.getElem?_eq_getElem (by omega), Option.map_some, Option.map_some, if_pos ⟨by omega, by simpa using hk⟩]
    congr 1
    simp [hk]
  · rw [if_neg hk, List.getElem?_eq_none (by omega)]
    rfl
theorem sort_mem {B : Nat} {U : List Nat} {w0 : World} {Z0 : Fz} {R : List Res} {Z : Fz} {w : World} (hM : Mem B U w0 Z0 R Z w) (i : Nat) {e : TypeId} {ad : Addr} {cap : Nat} {xs : List Int} (hR : R[i]? = some (.own t6 e (some ad) cap xs)) (n : Nat) (os : Array Obj) (ys : List Int) (hl : ys.length = xs.length) : Mem B U w0 Z0 (R.set i (.own t6 e (some ad) cap ys)) Z (grow (putRow (Value.int .i64) (Go.Sort.ahead w n) ad.block 0 ys.toArray) os) := by
  obtain ⟨a, c, cells, ho, hr⟩ := hM.res _ (List.mem_of_getElem? hR)
  rcases ho.2 with ⟨hv, _⟩ | ⟨g, cap', cur, hv, hb, hg, hn, hc, hs, ht⟩
  · cases hv
  · cases hv
    refine hM.upd hR (sort_grown w _ n _ os) _ ⟨a, by rw [hl]; exact c, ys.map (Value.int .i64), ⟨by simp [tyInt], .inr ⟨g, cap, _, by rw [hl], hb, sort_block w g n _ os cur e _ hg, by rw [hl]; exact hn, hc, ?_, ?_⟩⟩, ?_⟩ (fun b hb => .inl hb)
    · unfold putCells; rw [Array.size_mapIdx]; exact hs
    · have := sort_cells ys cur n (cap * 1) (by simpa [tyInt] using hs) (by omega)
      simpa [tyInt] using this
    · refine ⟨by simp [tyInt], fun j x hx => ?_⟩
      show List.take 1 (List.drop (j * 1) (ys.map (Value.int .i64))) = [Value.int .i64 x]
      have hj := (List.getElem?_eq_some_iff.1 hx).1
      rw [Nat.mul_one, List.drop_eq_getElem_cons (by rw [List.length_map]; exact hj), List.take_succ_cons, List.take_zero, List.getElem_map, (List.getElem?_eq_some_iff.1 hx).2]
theorem sort_frozen (w : World) (g j : Nat) (cur : Array Value) (e : TypeId) (hg : w.heap[g]? = some (.cells cur e (0, 0))) : w.frozen? ⟨g, j, none⟩ = false := by
  simp [World.frozen?, hg]
theorem sort_holds {B : Nat} {U : List Nat} {Z : Fz} {w : World} {e : TypeId} {ad : Addr} {cap : Nat} {xs : List Int} (h : (Res.own t6 e (some ad) cap xs).holds B U Z w) : ad = ⟨ad.block, 0, none⟩ ∧ ad.block < w.heap.size ∧ Holds (Value.int .i64) w ad.block 0 xs.toArray := by
  obtain ⟨d, f, cells, ho, hr⟩ := h
  rcases ho.2 with ⟨hv, _⟩ | ⟨g, cap', cur, hv, hb, hg, hn, hc, hs, ht⟩
  · cases hv
  · cases hv
    refine ⟨rfl, (Array.getElem?_eq_some_iff.1 hg).1, fun j hj => ⟨?_, sort_frozen w g _ cur e hg⟩⟩
    have hj : j < xs.length := by simpa using hj
    have b := hr.2 j xs[j] (List.getElem?_eq_getElem hj)
    have b : List.take 1 (List.drop (j * 1) cells) = [Value.int .i64 xs[j]] := b
    have a : cells[j]? = some (Value.int .i64 xs[j]) := by
      have c := congrArg (fun l => l[0]?) b
      simpa using c
    rw [← ht, List.getElem?_take] at a
    split at a
    · show w.cell? ⟨g, 0 + j, none⟩ = _
      rw [cell_of_row w g _ cur e (0, 0) hg, Nat.zero_add]
      rw [Array.getElem?_toList] at a
      rw [a]
      simp [hj]
    · cases a
theorem isort_at {P : Program} {fid : Nat} (u0 : List Int) (ao1 : Option Addr) (cap2 : Nat) (B : Nat) (w0 : World) (Z0 : Fz) (Rr : List Res) (Z : Fz) (w : World) {e : TypeId} (hM0 : Mem B [] w0 Z0 ((.own t6 e ao1 cap2 u0) :: Rr) Z w)
    (h1 : ∀ (blk off cap : Nat) (zs : List Int) (w : World) (hH : Holds (Value.int .i64) w blk off zs.toArray) (hblk : blk < w.heap.size) (hsz : zs.length < 4611686018427387904), Calls P fid #[.slice (some ⟨blk, off, none⟩) zs.length cap] w fun e w' => e = .returned (.tuple #[]) ∧ ∃ n os, w' = grow (putRow (Value.int .i64) (Go.Sort.ahead w n) blk off (zs.mergeSort fun x y => decide (x ≤ y)).toArray) os)
    (h2 : ∀ (p : Option Addr) (cap : Nat) (w : World), Calls P fid #[.slice p 0 cap] w fun e w' => e = .returned (.tuple #[]) ∧ w' = w) :
    Calls P fid #[.slice ao1 u0.length cap2] w fun e9 w' => ∃ (Z' : Fz), e9 = .returned (.tuple #[]) ∧ Fz.le Z Z' ∧ ((isortS u0).length = u0.length) ∧ Mem B [] w0 Z0 ((.own t6 e ao1 cap2 (isortS u0)) :: Rr) Z' w' := by
  have hr := hM0.res _ List.mem_cons_self
  cases ao1 with
  | none =>
    obtain ⟨_, _, cells, ho, _⟩ := hr
    rcases ho.2 with ⟨hv, hn⟩ | ⟨g, cap', cur, hv, _⟩
    · have : u0 = [] := List.eq_nil_of_length_eq_zero hn
      subst this
      have a : isortS [] = [] := by unfold isortS; exact List.mergeSort_nil
      rw [a]
      exact (h2 none cap2 w).mono fun _ _ ⟨ha, hb⟩ => by subst hb; exact ⟨Z, ha, Fz.le.refl Z, rfl, hM0⟩
    · cases hv
  | some ad =>
    obtain ⟨ha, hb, hc⟩ := sort_holds hr
    have hsm : u0.length < 4611686018427387904 := by
      have := hr.2.1
      have e : lim = 140737488355328 := rfl
      omega
    have hcall := h1 ad.block 0 cap2 u0 w hc hb hsm
    rw [← ha] at hcall
    refine hcall.mono ?_
    rintro _ _ ⟨he, n, os, rfl⟩
    exact ⟨Z, he, Fz.le.refl Z, isort_len u0, sort_mem hM0 0 rfl n os (isortS u0) (isort_len u0)⟩
theorem isort_fun (u0 : List Int) (ao1 : Option Addr) (cap2 : Nat) (B : Nat) (w0 : World) (Z0 : Fz) (Rr : List Res) (Z : Fz) (w : World) (hM0 : Mem B [] w0 Z0 ((.own t6 3 ao1 cap2 u0) :: Rr) Z w) (hZ : Z.on w) : Calls Try.prog 37 #[.slice ao1 u0.length cap2] w fun e w' => ∃ (Z' : Fz), e = .returned (.tuple #[]) ∧ Fz.le Z Z' ∧ ((isortS u0).length = u0.length) ∧ Mem B [] w0 Z0 ((.own t6 3 ao1 cap2 (isortS u0)) :: Rr) Z' w' :=
  isort_at u0 ao1 cap2 B w0 Z0 Rr Z w hM0 (fun blk off cap zs w hH hb hs => Any.slices_Sort_int Try.lays189 blk off cap zs w hH hb hs) (fun p cap w => Any.slices_Sort_int_none Try.lays189 p cap w)

theorem icmp_walk (u0 : Int) (u1 : Int)  (Z : Fz) (w : World)  (hZ : Z.on w) {K : Int → Prop} (hp : icmp_vc u0 u1 K) : Calls Try.prog 38 #[i6 u0, i6 u1] w fun e w' => ∃ r : Int, e = .returned (i6 r) ∧ K r ∧ Below w.heap.size w w' := by
 refine enter0 Try.func38 rfl rfl (by kernel_rfl) ?_; intro U u; have h := Mem.start w Z hZ; have V := Fz.le.refl Z
 refine sqB u h [] [] [] ?_; intro W v; clear u
 refine sqH ?_; intro F x
 refine s1 v 7 (i6 u0) ?_; intro X y; clear v
 refine fc y h (iisnan_fun u0 _ _ h.fz) ?_; intro Y aa z m; clear y h
 refine s1 z 5 (.bool (iisnan u0)) ?_; intro ab A; clear z
 refine nlH (x _ _ ?_); clear x F
 refine sqH ?_; intro G B
 refine s1 A 9 (i6 u1) ?_; intro ac C; clear A
 refine fc C m (iisnan_fun u1 _ _ m.fz) ?_; intro ad ae D a; clear C m
 refine s1 D 6 (.bool (iisnan u1)) ?_; intro af E; clear D
 refine nlH (B _ _ ?_); clear B G
 refine wp_seq ?_
 refine sqB E a [] [] [(11, .bool (iisnan u0))] ?_; intro ag b; clear E
 refine cd b (t := (iisnan u0)) (by kernel_rfl) (fun n => ?_) (fun n => ?_)
 · -- yes
  have i := hp.1 n; clear hp
  refine wp_seq ?_
  refine sqB b a [] [] [(12, .bool (iisnan u1))] ?_; intro ah c; clear b
  refine cd c (t := (iisnan u1)) (by kernel_rfl) (fun o => ?_) (fun o => ?_)
  · -- yes
   have H := i.1 o; clear i
   refine sqB c a [] [] [(4, i6 0)] ?_; intro ai I; clear c
   refine wp_ret ?_
   refine thr ?_
   refine thr ?_
   refine ra1 I (i6 0) ?_
   exact ⟨0, rfl, H, a.below⟩
  · -- no
   have J := i.2 o; clear i
   refine wp_skip ?_
   refine thn ?_
   refine sqB c a [] [] [(4, i6 (-1))] ?_; intro aj L; clear c
   refine wp_ret ?_
   refine thr ?_
   refine ra1 L (i6 (-1)) ?_
   exact ⟨-1, rfl, J, a.below⟩
 · -- no
  have j := hp.2 n; clear hp
  refine wp_skip ?_
  refine thn ?_
  refine wp_seq ?_
  refine sqB b a [] [] [(13, .bool (iisnan u1))] ?_; intro ak d; clear b
  refine cd d (t := (iisnan u1)) (by kernel_rfl) (fun p => ?_) (fun p => ?_)
  · -- yes
   have M := j.1 p; clear j
   refine sqB d a [] [] [(4, i6 1)] ?_; intro al N; clear d
   refine wp_ret ?_
   refine thr ?_
   refine ra1 N (i6 1) ?_
   exact ⟨1, rfl, M, a.below⟩
  · -- no
   have k := j.2 p; clear j
   refine wp_skip ?_
   refine thn ?_
   refine wp_seq ?_
   refine sqB d a [] [] [(16, .bool (decide (u0 < u1)))] ?_; intro am f; clear d
   refine cd f (t := decide (u0 < u1)) (by kernel_rfl) (fun q => ?_) (fun q => ?_)
   · -- yes
    have O := k.1 q; clear k
    refine sqB f a [] [] [(4, i6 (-1))] ?_; intro an P; clear f
    refine wp_ret ?_
    refine thr ?_
    refine ra1 P (i6 (-1)) ?_
    exact ⟨-1, rfl, O, a.below⟩
   · -- no
    have l := k.2 q; clear k
    refine wp_skip ?_
    refine thn ?_
    refine wp_seq ?_
    refine sqB f a [] [] [(19, .bool (decide (u0 > u1)))] ?_; intro ao g; clear f
    refine cd g (t := decide (u0 > u1)) (by kernel_rfl) (fun s => ?_) (fun s => ?_)
    · -- yes
     have Q := l.1 s; clear l
     refine sqB g a [] [] [(4, i6 1)] ?_; intro ap R; clear g
     refine wp_ret ?_
     refine thr ?_
     refine ra1 R (i6 1) ?_
     exact ⟨1, rfl, Q, a.below⟩
    · -- no
     have S := l.2 s; clear l
     refine wp_skip ?_
     refine thn ?_
     refine sqB g a [] [] [(4, i6 0)] ?_; intro aq T; clear g
     refine wp_ret ?_
     refine ra1 T (i6 0) ?_
     exact ⟨0, rfl, S, a.below⟩

end Go.Proofs.Ytdndfbamhnchfaa
set_option linter.unusedVariables false
set_option linter.unusedSimpArgs false
set_option maxRecDepth 100000
set_option maxHeartbeats 0
namespace Go.Proofs.Ytdndfbamhnchfaa
open Go.Sy Go.RowKit
abbrev e23F (X : Signal) : List Value := [str X.Name, i6 X.Start, i6 X.Size, .bool X.Back, .bool X.Signed, i6 X.Mul, i6 X.Div, i6 X.Add, i6 X.Key]
theorem icmp_fun (u0 : Int) (u1 : Int)  (Z : Fz) (w : World)  (hZ : Z.on w) : Calls Try.prog 38 #[i6 u0, i6 u1] w fun e w' => e = .returned (i6 (icmpS u0 u1)) ∧ Below w.heap.size w w' :=
  (icmp_walk u0 u1  Z w  hZ (icmp_ok u0 u1)).mono fun _ _ ⟨r, he, hk, hb⟩ => ⟨by subst hk; exact he, hb⟩

theorem sover_walk (u0 : Signal) (u1 : Signal)  (Z : Fz) (w : World)  (hZ : Z.on w) {K : Bool → Prop} (hp : sover_vc u0 u1 K) : Calls Try.prog 15 #[.agg #[str u0.Name, i6 u0.Start, i6 u0.Size, .bool u0.Back, .bool u0.Signed, i6 u0.Mul, i6 u0.Div, i6 u0.Add, i6 u0.Key], .agg #[str u1.Name, i6 u1.Start, i6 u1.Size, .bool u1.Back, .bool u1.Signed, i6 u1.Mul, i6 u1.Div, i6 u1.Add, i6 u1.Key]] w fun e w' => ∃ r : Bool, e = .returned (.bool r) ∧ K r ∧ Below w.heap.size w w' := by
 refine enter0 Try.func15 rfl rfl (by kernel_rfl) ?_; intro a0 aj; have ak := Mem.start w Z hZ; have h := Fz.le.refl Z
 refine sqH ?_; intro bB al
 refine nw aj ak pb (e23F u0) 23 ?_; intro j a3 cJ am an; clear aj ak
 refine nw am an pb (e23F u1) 23 ?_; intro i a8 cK ao H; clear am an
 refine s1 ao 4 (.bool false) ?_; intro cL ap; clear ao
 refine nlH (al _ _ ?_); clear al bB
 refine wp_seq ?_
 refine sqH ?_; intro bC aq
 refine l2 ap H 8 1 0 9 (e23F u0) rfl rfl ?_; intro cM ar; clear ap
 refine fc ar H (scheck_fun u0 64 _ _ H.fz) ?_; intro cN cO au I; clear ar H
 refine s1 au 10 (.bool ((checkS u0 64) != 0)) ?_; intro cP av; clear au
 refine s1 av 11 (.bool ((checkS u0 64) != 0)) ?_; intro cQ aw; clear av
 have S := aw.atom (((checkS u0 64) != 0) == false) (by kernel_rfl); clear aw
 refine gd S (.agg (e23F u1).toArray) (m := 0) (cj := []) (bj := (checkS u0 64) != 0) rfl rfl (by kernel_rfl) rfl (by kernel_rfl) (by kernel_rfl) (by kernel_rfl) (fun hg => lda S I 0 (g := [0]) (b := i) (off := 0) (k := 9) (cs := (e23F u1)) (vs := (e23F u1)) (ty := 23) rfl (by kernel_rfl) (by kernel_rfl) (by kernel_rfl) (by kernel_rfl) (by kernel_rfl) hg) ?_; intro cR ax; clear S
 refine gcl ax I (i6 (checkS u1 64)) 23 #[.agg (e23F u1).toArray, i6 64] (m := 0) (cj := []) (bj := (checkS u0 64) != 0) rfl rfl (by kernel_rfl) rfl (by kernel_rfl) (by kernel_rfl) (by kernel_rfl) (fun _ => by kernel_rfl) (fun hg => scheck_fun u1 64 _ _ I.fz) ?_; intro cT cU ay J; clear ax I
 refine gp ay 14 0 [] ((checkS u0 64) != 0) (.bool ((checkS u1 64) != 0)) rfl rfl ?_; intro cV U; clear ay
 refine st U (.bool (((checkS u0 64) != 0) || ((checkS u1 64) != 0))) (nog rfl _) rfl (by kernel_rfl) (pk_or U (g := []) (m := 0) (b := (checkS u0 64) != 0) (v := (checkS u1 64) != 0) rfl (by kernel_rfl) (by kernel_rfl) (by kernel_rfl) rfl) ?_; intro az x; clear U
 refine nlH (aq _ _ ?_); clear aq bC
 refine cd x (t := ((checkS u0 64) != 0) || ((checkS u1 64) != 0)) (by kernel_rfl) (fun V => ?_) (fun V => ?_)
 · -- yes
  have bD := hp.1 V; clear hp
  have aA : Fr 49 [] [] az := x.region (by kernel_rfl) (by kernel_rfl); clear x
  refine sqB aA J [] [] [(4, .bool false)] ?_; intro cW bE; clear aA
  refine wp_ret ?_
  refine thr ?_
  refine ra1 bE (.bool false) ?_
  exact ⟨false, rfl, bD, J.below⟩
 · -- no
  have bF := hp.2 V; clear hp
  refine wp_skip ?_
  refine thn ?_
  have aB : Fr 49 [] [⟨2, [], pt j 0⟩, ⟨3, [], pt i 0⟩] az := x.region (by kernel_rfl) (by kernel_rfl); clear x
  refine wp_seq (rgS mixed J [(0, true), (2, true), (1, false), (3, false), (4, true), (5, true)] [] [1, 0] [.row j (e23F u0) 23, .row i (e23F u1) 23] ?_)
  intro bG aC cX W; clear J
  have q := Fz.le.refl Z
  refine cS aB 2 [0, 1] [] [(16, .agg (e23F u0).toArray), (18, .agg (e23F u1).toArray)] ?_; intro cY aD; clear aB
  refine eS rfl ?_; intro bH aE
  obtain ⟨bI, bJ⟩ := bF
  refine ck aD 30 #[.agg (e23F u0).toArray] ?_
  refine (splaces_fun u0 bI _ _ W.fz).mono ?_; rintro _ bK ⟨a, c, bL, rfl, hm⟩; refine ⟨_, rfl, ?_⟩; intro cZ aF; have aG := W.callZ hm; have aH := hm.ext.le; clear hm W aD
  replace q := q.mono aH
  replace h := Fz.le.trans h aH
  have L : Mem w.heap.size [] w Z [.own t6 3 a c (placesS u0), .row i (e23F u1) 23, .row j (e23F u0) 23] bL bK := aG; clear aG
  refine nl (qnI (aE _ _ (L.cst q [2, 1]) ?_)); clear aE bH
  refine eS rfl ?_; intro bM aI
  obtain ⟨bN, aJ⟩ := bJ
  refine ck aF 30 #[.agg (e23F u1).toArray] ?_
  refine (splaces_fun u1 bN _ _ L.fz).mono ?_; rintro _ bO ⟨d, f, bP, rfl, hm⟩; refine ⟨_, rfl, ?_⟩; intro c0 aK; have aL := L.callZ hm; have aM := hm.ext.le; clear hm L aF
  replace q := q.mono aM
  replace h := Fz.le.trans h aM
  have M : Mem w.heap.size [] w Z [.own t6 3 d f (placesS u1), .own t6 3 a c (placesS u0), .row i (e23F u1) 23, .row j (e23F u0) 23] bP bO := aL; clear aL
  refine nl (qnI (aI _ _ (M.cst q [3, 2]) ?_)); clear aI bM
  refine cS aK 2 [] [] [(5, .slice a (placesS u0).length c), (6, .slice d (placesS u1).length f)] ?_; intro c1 aN; clear aK
  refine nS (aC _ _ ?_); clear aC bG
  refine thn ?_
  refine sqH ?_; intro bQ aO
  refine s1 aN 20 (.slice a (placesS u0).length c) ?_; intro c2 aP; clear aN
  refine ck aP 37 #[.slice a (placesS u0).length c] ?_
  refine (isort_fun (placesS u0) a c _ _ _ _ _ _ (M.perm (pk 1 rfl)) M.fz).mono ?_; rintro _ bR ⟨bS, rfl, bT, bU, hm⟩; refine ⟨_, rfl, ?_⟩; intro bV aQ; have aR := hm; clear hm M aP
  replace h := Fz.le.trans h bT
  have aS : Fr 49 [] [⟨2, [], pt j 0⟩, ⟨3, [], pt i 0⟩, ⟨5, [], .slice a (isortS (placesS u0)).length c⟩, ⟨6, [], .slice d (placesS u1).length f⟩, ⟨16, [], .agg (e23F u0).toArray⟩, ⟨17, [], .slice a (isortS (placesS u0)).length c⟩, ⟨18, [], .agg (e23F u1).toArray⟩, ⟨19, [], .slice d (placesS u1).length f⟩, ⟨20, [], .slice a (isortS (placesS u0)).length c⟩, ⟨21, [], .tuple #[]⟩] bV := by rw [bU]; exact aQ.region (by kernel_rfl) (by kernel_rfl)
  clear aQ
  have N : Mem w.heap.size [] w Z [.own t6 3 a c (isortS (placesS u0)), .own t6 3 d f (placesS u1), .row i (e23F u1) 23, .row j (e23F u0) 23] bS bR := aR; clear aR
  have aT := aJ (N.ownSmall 0 rfl); clear aJ
  refine nlH (aO _ _ ?_); clear aO bQ
  refine sqH ?_; intro bW aU
  refine s1 aS 22 (.slice d (placesS u1).length f) ?_; intro c3 aV; clear aS
  refine ck aV 37 #[.slice d (placesS u1).length f] ?_
  refine (isort_fun (placesS u1) d f _ _ _ _ _ _ (N.perm (pk 1 rfl)) N.fz).mono ?_; rintro _ X ⟨bX, rfl, bY, bZ, hm⟩; refine ⟨_, rfl, ?_⟩; intro Y aW; have aX := hm; clear hm N aV
  replace h := Fz.le.trans h bY
  have aY : Fr 49 [] [⟨2, [], pt j 0⟩, ⟨3, [], pt i 0⟩, ⟨5, [], .slice a (isortS (placesS u0)).length c⟩, ⟨6, [], .slice d (isortS (placesS u1)).length f⟩, ⟨16, [], .agg (e23F u0).toArray⟩, ⟨17, [], .slice a (isortS (placesS u0)).length c⟩, ⟨18, [], .agg (e23F u1).toArray⟩, ⟨19, [], .slice d (isortS (placesS u1)).length f⟩, ⟨20, [], .slice a (isortS (placesS u0)).length c⟩, ⟨21, [], .tuple #[]⟩, ⟨22, [], .slice d (isortS (placesS u1)).length f⟩, ⟨23, [], .tuple #[]⟩] Y := by rw [bZ]; exact aW.region (by kernel_rfl) (by kernel_rfl)
  clear aW
  have aZ : Mem w.heap.size [] w Z [.own t6 3 d f (isortS (placesS u1)), .own t6 3 a c (isortS (placesS u0)), .row i (e23F u1) 23, .row j (e23F u0) 23] bX X := aX; clear aX
  have b0 := aT (aZ.ownSmall 0 rfl); clear aT
  refine nlH (aU _ _ ?_); clear aU bW
  refine wp_seq ?_
  refine wp_block ?_
  have a1 : Fr 49 [] [⟨5, [], .slice a (isortS (placesS u0)).length c⟩, ⟨6, [], .slice d (isortS (placesS u1)).length f⟩] Y := aY.region (by kernel_rfl) (by kernel_rfl); clear aY
  obtain ⟨b1, b3, a2, O⟩ := aZ.freeze 1 rfl
  replace h := Fz.le.trans h b3
  have b4 : Mem w.heap.size [] w Z [.own t6 3 d f (isortS (placesS u1)), .row i (e23F u1) 23, .row j (e23F u0) 23] b1 X := a2; clear a2
  obtain ⟨aa, a4, a5, a6⟩ := b4.freeze 0 rfl
  replace O := O.mono a4
  replace h := Fz.le.trans h a4
  have a7 : Mem w.heap.size [] w Z [.row i (e23F u1) 23, .row j (e23F u0) 23] aa X := a5; clear a5
  have a9 : Fr 49 [] [⟨5, [], .slice a (isortS (placesS u0)).length c⟩, ⟨6, [], .slice d (isortS (placesS u1)).length f⟩] Y := a1.region (by kernel_rfl) (by kernel_rfl); clear a1
  obtain ⟨b5, b6, b8, b9⟩ := b0
  have c4 := h
  refine lp (ι := (List Int) × (List Int) × (Option Addr) × Nat × (Option Addr) × Nat × Fz) (fun s => [⟨5, [], .slice s.2.2.1 s.1.length s.2.2.2.1⟩, ⟨6, [], .slice s.2.2.2.2.1 s.2.1.length s.2.2.2.2.2.1⟩]) (fun s => [.row i (e23F u1) 23, .row j (e23F u0) 23]) (fun s => s.2.2.2.2.2.2) (fun s => b5 s.1 s.2.1 ∧ SlR t6 s.2.2.2.2.2.2 s.2.2.1 s.2.2.2.1 s.1 ∧ SlR t6 s.2.2.2.2.2.2 s.2.2.2.2.1 s.2.2.2.2.2.1 s.2.1 ∧ Fz.le aa s.2.2.2.2.2.2) (fun s => b6 s.1 s.2.1) ⟨(isortS (placesS u0)), (isortS (placesS u1)), a, c, d, f, aa⟩ ⟨b8, O, a6, Fz.le.refl _⟩ (by exact a9.region (by kernel_rfl) (by kernel_rfl)) (by exact a7) ?_
  rintro ⟨l, n, y, z, A, B, ab⟩ ⟨ca, ac, ad, C⟩ cb cc ba bb
  have bc : Fr 49 [] [⟨5, [], .slice y l.length z⟩, ⟨6, [], .slice A n.length B⟩] cb := ba; clear ba a9
  have D : Mem w.heap.size [] w Z [.row i (e23F u1) 23, .row j (e23F u0) 23] ab cc := bb; clear bb a7
  have P := b9 l n ca
  replace h := Fz.le.trans h C
  have c5 := O.mono C
  have c6 := a6.mono C
  refine wp_seq ?_
  refine sqB bc D [] [] [(31, .bool ((decide ((l.length : Int) > 0)) && (decide ((n.length : Int) > 0))))] ?_; intro ce E; clear bc
  refine cd E (t := (decide ((l.length : Int) > 0)) && (decide ((n.length : Int) > 0))) (by kernel_rfl) (fun ae => ?_) (fun ae => ?_)
  · -- yes
   have cf := P.1 ae; clear P
   refine wp_skip ?_
   refine thn ?_
   refine wp_block ?_
   have bd : Fr 49 [] [⟨5, [], .slice y l.length z⟩, ⟨6, [], .slice A n.length B⟩] ce := E.region (by kernel_rfl) (by kernel_rfl); clear E
   refine sqQH mixed (by kernel_rfl) D ?_; intro cg be
   refine q1 bd 32 (.slice y l.length z) ?_; intro c7 bf; clear bd
   obtain ⟨ch, bg⟩ := cf
   refine qix bf (T := t6) (xs := l) ac (0 : Int) ch (k := .i64) (e := 3) (bytes := 8) (nog rfl _) rfl (by kernel_rfl) rfl (by kernel_rfl) (by kernel_rfl) (by kernel_rfl) ?_; intro c8 c9 ci o da cl cm cn af; clear bf
   have co := bg o cl; clear bg
   obtain rfl : ci = ([i6 o] : List Value) := cn
   refine qst af (i6 o) (nog rfl _) rfl (by kernel_rfl) (fun v170 hC => lz af hC.fz cm 0 (g := []) rfl (by kernel_rfl) (by kernel_rfl) (by kernel_rfl) rfl) ?_; intro db bh; clear af
   refine q1 bh 35 (.slice A n.length B) ?_; intro dc bi; clear bh
   obtain ⟨cp, bk⟩ := co
   refine qix bi (T := t6) (xs := n) ad (0 : Int) cp (k := .i64) (e := 3) (bytes := 8) (nog rfl _) rfl (by kernel_rfl) rfl (by kernel_rfl) (by kernel_rfl) (by kernel_rfl) ?_; intro dd de cq p df cr ct cu ag; clear bi
   have Q := bk p cr; clear bk
   obtain rfl : cq = ([i6 p] : List Value) := cu
   refine qst ag (i6 p) (nog rfl _) rfl (by kernel_rfl) (fun v189 hC => lz ag hC.fz ct 0 (g := []) rfl (by kernel_rfl) (by kernel_rfl) (by kernel_rfl) rfl) ?_; intro dg bl; clear ag
   refine qcl bl (i6 (icmpS o p)) 38 #[i6 o, i6 p] (nog rfl _) rfl (by kernel_rfl) (fun _ => by kernel_rfl) (qfc fun w hC => icmp_fun o p _ _ hC.fz) ?_; intro dh bm; clear bl
   refine q1 bm 7 (i6 (icmpS o p)) ?_; intro di bn; clear bm
   refine qnl (be _ ?_); clear be cg; intro dj u; clear D
   refine wp_block ?_
   refine sqB bn u [] [] [(41, .bool ((icmpS o p) == 0))] ?_; intro dk F; clear bn
   refine cd F (t := (icmpS o p) == 0) (by kernel_rfl) (fun ah => ?_) (fun ah => ?_)
   · -- yes
    have cv := Q.1 ah; clear Q
    refine sqB F u [] [] [(4, .bool true)] ?_; intro dl cw; clear F
    refine wp_ret ?_
    refine ibr ?_
    refine ibr ?_
    refine thr ?_
    refine ibr ?_
    refine thr ?_
    refine ra1 cw (.bool true) ?_
    exact ⟨true, rfl, cv, u.below⟩
   · -- no
    have R := Q.2 ah; clear Q
    refine sqB F u [] [] [(44, .bool (decide ((icmpS o p) < 0)))] ?_; intro dm G; clear F
    refine cd G (t := decide ((icmpS o p) < 0)) (by kernel_rfl) (fun ai => ?_) (fun ai => ?_)
    · -- yes
     have cx := R.1 ai; clear R
     refine rgH ?_; intro cy bo
     refine s1 G 47 (.slice y l.length z) ?_; intro dn bp; clear G
     obtain ⟨cz, bq⟩ := cx
     refine slL bp (T := t6) (xs := l) ac (1 : Int) cz (k := .i64) (e := 3) (bytes := 8) (nog rfl _) rfl (by kernel_rfl) rfl (by kernel_rfl) (by kernel_rfl) (by kernel_rfl) ?_; intro br bs dp dq cA bt; clear bp
     refine s1 bt 5 (.slice br (l.drop (1 : Int).toNat).length bs) ?_; intro dr cB; clear bt
     refine nlH (bo _ _ ?_); clear bo cy
     refine ibn ?_
     refine ibn ?_
     refine rd ?_
     exact ⟨⟨l.drop (1 : Int).toNat, n, br, bs, A, B, ab⟩, ⟨bq.1, cA, ad, C⟩, bq.2, (cB.region (by kernel_rfl) (by kernel_rfl)).anyβ _ (by kernel_rfl), u.keep (List.Sublist.cons_cons _ (List.Sublist.cons_cons _ (List.Sublist.slnil)))⟩
    · -- no
     have cC := R.2 ai; clear R
     refine rgH ?_; intro cD bu
     refine s1 G 39 (.slice A n.length B) ?_; intro ds bv; clear G
     obtain ⟨cE, bw⟩ := cC
     refine slL bv (T := t6) (xs := n) ad (1 : Int) cE (k := .i64) (e := 3) (bytes := 8) (nog rfl _) rfl (by kernel_rfl) rfl (by kernel_rfl) (by kernel_rfl) (by kernel_rfl) ?_; intro bx bz dt du cF bA; clear bv
     refine s1 bA 6 (.slice bx (n.drop (1 : Int).toNat).length bz) ?_; intro dv cG; clear bA
     refine nlH (bu _ _ ?_); clear bu cD
     refine ibn ?_
     refine ibn ?_
     refine rd ?_
     exact ⟨⟨l, n.drop (1 : Int).toNat, y, z, bx, bz, ab⟩, ⟨bw.1, ac, cF, C⟩, bw.2, (cG.region (by kernel_rfl) (by kernel_rfl)).anyβ _ (by kernel_rfl), u.keep (List.Sublist.cons_cons _ (List.Sublist.cons_cons _ (List.Sublist.slnil)))⟩
  · -- no
   have cH := P.2 ae; clear P
   refine wp_exit ?_
   refine thx ?_
   refine thx ?_
   refine ibx ?_
   refine thn ?_
   refine sqB E D [] [] [(4, .bool false)] ?_; intro dw cI; clear E
   refine wp_ret ?_
   refine ra1 cI (.bool false) ?_
   exact ⟨false, rfl, cH, D.below⟩

end Go.Proofs.Ytdndfbamhnchfaa
set_option linter.unusedVariables false
set_option linter.unusedSimpArgs false
set_option maxRecDepth 100000
set_option maxHeartbeats 0
namespace Go.Proofs.Ytdndfbamhnchfaa
open Go.Sy Go.RowKit
abbrev e30G (X : Reading) : List Value := [str X.Name, i6 X.Num, i6 X.Den]
theorem sover_fun (u0 : Signal) (u1 : Signal)  (Z : Fz) (w : World)  (hZ : Z.on w) : Calls Try.prog 15 #[.agg #[str u0.Name, i6 u0.Start, i6 u0.Size, .bool u0.Back, .bool u0.Signed, i6 u0.Mul, i6 u0.Div, i6 u0.Add, i6 u0.Key], .agg #[str u1.Name, i6 u1.Start, i6 u1.Size, .bool u1.Back, .bool u1.Signed, i6 u1.Mul, i6 u1.Div, i6 u1.Add, i6 u1.Key]] w fun e w' => e = .returned (.bool (overS u0 u1)) ∧ Below w.heap.size w w' :=
  (sover_walk u0 u1  Z w  hZ (sover_ok u0 u1)).mono fun _ _ ⟨r, he, hk, hb⟩ => ⟨by subst hk; exact he, hb⟩

theorem speed_walk   (Z : Fz) (w : World)  (hZ : Z.on w) {K : Signal → Prop} (hp : speed_vc  K) : Calls Try.prog 27 #[] w fun e w' => ∃ r : Signal, e = .returned (.agg #[str r.Name, i6 r.Start, i6 r.Size, .bool r.Back, .bool r.Signed, i6 r.Mul, i6 r.Div, i6 r.Add, i6 r.Key]) ∧ K r ∧ Below w.heap.size w w' := by
 refine enter0 Try.func27 rfl rfl (by kernel_rfl) ?_; intro q d; have f := Mem.start w Z hZ; have s := Fz.le.refl Z
 refine sqH ?_; intro n g
 refine nw d f pb [str [], i6 0, i6 0, .bool false, .bool false, i6 0, i6 0, i6 0, i6 0] 23 ?_; intro a t u h i; clear d f
 refine nlH (g _ _ ?_); clear g n
 refine sqH ?_; intro o j
 refine s1 h 1 (.agg #[str ([115, 112, 101, 101, 100] : List UInt8), i6 8, i6 16, .bool false, .bool false, i6 1, i6 10, i6 0, i6 (-1)]) ?_; intro x c; clear h
 refine sx c i 0 [str ([115, 112, 101, 101, 100] : List UInt8), i6 8, i6 16, .bool false, .bool false, i6 1, i6 10, i6 0, i6 (-1)] 0 ?_; intro p l; clear i
 have m : Mem w.heap.size [] w Z [.row a [str ([115, 112, 101, 101, 100] : List UInt8), i6 8, i6 16, .bool false, .bool false, i6 1, i6 10, i6 0, i6 (-1)] 23] Z p := l; clear l
 refine nlH (j _ _ ?_); clear j o
 refine wp_ret ?_
 refine rt (fn := Try.f27) (v := .agg #[str ([115, 112, 101, 101, 100] : List UInt8), i6 8, i6 16, .bool false, .bool false, i6 1, i6 10, i6 0, i6 (-1)]) c (re1c c (fn := Try.f27) rfl (ad := ⟨a, 0, none⟩) (by kernel_rfl) (loadVar_run m 0 (b := a) (k := 9) (vs := [str ([115, 112, 101, 101, 100] : List UInt8), i6 8, i6 16, .bool false, .bool false, i6 1, i6 10, i6 0, i6 (-1)]) (ty := 23) rfl (by kernel_rfl) (by kernel_rfl)) ) ?_
 exact ⟨(⟨([115, 112, 101, 101, 100] : List UInt8), 8, 16, false, false, 1, 10, 0, -1⟩ : Signal), rfl, hp, m.below⟩
theorem speed_fun   (Z : Fz) (w : World)  (hZ : Z.on w) : Calls Try.prog 27 #[] w fun e w' => e = .returned (.agg #[str speed.Name, i6 speed.Start, i6 speed.Size, .bool speed.Back, .bool speed.Signed, i6 speed.Mul, i6 speed.Div, i6 speed.Add, i6 speed.Key]) ∧ Below w.heap.size w w' :=
  (speed_walk   Z w  hZ (speed_ok )).mono fun _ _ ⟨r, he, hk, hb⟩ => ⟨by subst hk; exact he, hb⟩

theorem signalled_walk   (Z : Fz) (w : World)  (hZ : Z.on w) {K : Bool → Prop} (hp : signalled_vc  K) : Calls Try.prog 8 #[] w fun e w' => ∃ r : Bool, e = .returned (.bool r) ∧ K r ∧ Below w.heap.size w w' := by
 refine enter0 Try.func8 rfl rfl (by kernel_rfl) ?_; intro a0 V; have p := Mem.start w Z hZ; have a := Fz.le.refl Z
 refine sqB V p [] [] [] ?_; intro a2 W; clear V
 refine sqH ?_; intro aU X
 refine fc W p (speed_fun  _ _ p.fz) ?_; intro a5 bh Y aa; clear W p
 refine nw Y aa (fun b => .slice (sm b) 3 3) [y8 0, y8 44, y8 1] 5 ?_; intro b9 bi ab ac ad; clear Y aa
 have aV : Mem w.heap.size [] w Z [.own t8 5 (sm b9) 3 ([0, 44, 1] : List Int)] Z ab := ad.rowOwn (T := t8) (xs := ([0, 44, 1] : List Int)) 0 rfl (by decide) (by show 3 ≤ lim; decide) ((RepAll.one (T := t8) (x := 0) rfl).append ((RepAll.one (T := t8) (x := 44) rfl).append (RepAll.one (T := t8) (x := 1) rfl))); clear ad
 obtain ⟨A, aW, ae, f⟩ := aV.freeze 0 rfl
 replace a := Fz.le.trans a aW
 have B : Mem w.heap.size [] w Z [] A ab := ae; clear ae
 obtain ⟨aX, aY⟩ := hp
 refine fc ac B (sread_fun speed ([0, 44, 1] : List Int) aX (sm b9) 3 _ _ f B.fz) ?_; intro bk bl af C; clear ac B
 refine bt af C 4 [] [] [(10, i6 (sreadS speed ([0, 44, 1] : List Int)).1), (11, .agg (e30G ((sreadS speed ([0, 44, 1] : List Int)).2.1)).toArray), (12, i6 (sreadS speed ([0, 44, 1] : List Int)).2.2)] ?_; intro bm ag; clear af
 refine nw ag C pb [str [], i6 0, i6 0] 30 ?_; intro h bn bo ah ai; clear ag C
 refine s1 ah 1 (i6 (sreadS speed ([0, 44, 1] : List Int)).1) ?_; intro bp D; clear ah
 refine sx D ai 0 (e30G ((sreadS speed ([0, 44, 1] : List Int)).2.1)) 0 ?_; intro aZ aj; clear ai
 refine s1 D 3 (i6 (sreadS speed ([0, 44, 1] : List Int)).2.2) ?_; intro bq ak; clear D
 have E : Mem w.heap.size [] w Z [.row h (e30G ((sreadS speed ([0, 44, 1] : List Int)).2.1)) 30] A aZ := aj; clear aj
 refine nlH (X _ _ ?_); clear X aU
 refine sqH ?_; intro a1 al
 refine fc ak E (speed_fun  _ _ E.fz) ?_; intro br bs am an; clear ak E
 refine nw am an (fun b => .slice (sm b) 3 3) [y8 9, y8 0, y8 0] 5 ?_; intro F bu ao ap aq; clear am an
 have a3 : Mem w.heap.size [] w Z [.own t8 5 (sm F) 3 ([9, 0, 0] : List Int), .row h (e30G ((sreadS speed ([0, 44, 1] : List Int)).2.1)) 30] A ao := aq.rowOwn (T := t8) (xs := ([9, 0, 0] : List Int)) 0 rfl (by decide) (by show 3 ≤ lim; decide) ((RepAll.one (T := t8) (x := 9) rfl).append ((RepAll.one (T := t8) (x := 0) rfl).append (RepAll.one (T := t8) (x := 0) rfl))); clear aq
 obtain ⟨a4, ar, au, i⟩ := a3.freeze 0 rfl
 replace f := f.mono ar
 replace a := Fz.le.trans a ar
 have G : Mem w.heap.size [] w Z [.row h (e30G ((sreadS speed ([0, 44, 1] : List Int)).2.1)) 30] a4 ao := au; clear au
 obtain ⟨a6, av⟩ := aY
 refine ck ap 7 #[.agg #[str speed.Name, i6 speed.Start, i6 speed.Size, .bool speed.Back, .bool speed.Signed, i6 speed.Mul, i6 speed.Div, i6 speed.Add, i6 speed.Key], .slice (sm F) ([9, 0, 0] : List Int).length 3, i6 30, i6 1] ?_
 refine (swrite_fun speed ([9, 0, 0] : List Int) 30 1 a6 (sm F) 3 _ _ i G.fz).mono ?_; rintro _ a7 ⟨l, n, a8, rfl, hm⟩; refine ⟨_, rfl, ?_⟩; intro bv aw; have ax := G.callZ hm; have H := hm.ext.le; clear hm G ap
 replace f := f.mono H
 replace i := i.mono H
 replace a := Fz.le.trans a H
 have j : Mem w.heap.size [] w Z [.own t8 5 l n (swriteS speed ([9, 0, 0] : List Int) 30 1).1, .row h (e30G ((sreadS speed ([0, 44, 1] : List Int)).2.1)) 30] a8 a7 := ax; clear ax
 have q := av (j.ownSmall 0 rfl); clear av
 refine bt aw j 5 [] [] [(4, .slice l (swriteS speed ([9, 0, 0] : List Int) 30 1).1.length n), (5, i6 (swriteS speed ([9, 0, 0] : List Int) 30 1).2)] ?_; intro bw ay; clear aw
 refine nlH (al _ _ ?_); clear al a1
 refine sqH ?_; intro az s
 refine s1 ay 19 (i6 (sreadS speed ([0, 44, 1] : List Int)).2.2) ?_; intro bx aA; clear ay
 refine s1 aA 20 (.bool ((sreadS speed ([0, 44, 1] : List Int)).2.2 == 0)) ?_; intro bz aB; clear aA
 refine s1 aB 21 (.bool ((sreadS speed ([0, 44, 1] : List Int)).2.2 == 0)) ?_; intro bA aC; clear aB
 have aD := aC.atom (((sreadS speed ([0, 44, 1] : List Int)).2.2 == 0) == true) (by kernel_rfl); clear aC
 refine gp aD 22 0 [] ((sreadS speed ([0, 44, 1] : List Int)).2.2 == 0) (i6 (swriteS speed ([9, 0, 0] : List Int) 30 1).2) rfl rfl ?_; intro bB aE; clear aD
 refine gp aE 23 0 [] ((sreadS speed ([0, 44, 1] : List Int)).2.2 == 0) (.bool ((swriteS speed ([9, 0, 0] : List Int) 30 1).2 == 0)) rfl rfl ?_; intro bC I; clear aE
 refine st I (.bool (((sreadS speed ([0, 44, 1] : List Int)).2.2 == 0) && ((swriteS speed ([9, 0, 0] : List Int) 30 1).2 == 0))) (nog rfl _) rfl (by kernel_rfl) (pk_and I (g := []) (m := 0) (b := (sreadS speed ([0, 44, 1] : List Int)).2.2 == 0) (v := (swriteS speed ([9, 0, 0] : List Int) 30 1).2 == 0) rfl (by kernel_rfl) (by kernel_rfl) (by kernel_rfl) rfl) ?_; intro bD aF; clear I
 refine s1 aF 25 (.bool (((sreadS speed ([0, 44, 1] : List Int)).2.2 == 0) && ((swriteS speed ([9, 0, 0] : List Int) 30 1).2 == 0))) ?_; intro bE aG; clear aF
 have aH := aG.atom ((((sreadS speed ([0, 44, 1] : List Int)).2.2 == 0) && ((swriteS speed ([9, 0, 0] : List Int) 30 1).2 == 0)) == true) (by kernel_rfl); clear aG
 refine gp aH 26 1 [] (((sreadS speed ([0, 44, 1] : List Int)).2.2 == 0) && ((swriteS speed ([9, 0, 0] : List Int) 30 1).2 == 0)) (i6 (sreadS speed ([0, 44, 1] : List Int)).1) rfl rfl ?_; intro bF aI; clear aH
 refine gp aI 27 1 [] (((sreadS speed ([0, 44, 1] : List Int)).2.2 == 0) && ((swriteS speed ([9, 0, 0] : List Int) 30 1).2 == 0)) (.bool ((sreadS speed ([0, 44, 1] : List Int)).1 == 300)) rfl rfl ?_; intro bG J; clear aI
 refine st J (.bool ((((sreadS speed ([0, 44, 1] : List Int)).2.2 == 0) && ((swriteS speed ([9, 0, 0] : List Int) 30 1).2 == 0)) && ((sreadS speed ([0, 44, 1] : List Int)).1 == 300))) (nog rfl _) rfl (by kernel_rfl) (pk_and J (g := []) (m := 1) (b := ((sreadS speed ([0, 44, 1] : List Int)).2.2 == 0) && ((swriteS speed ([9, 0, 0] : List Int) 30 1).2 == 0)) (v := (sreadS speed ([0, 44, 1] : List Int)).1 == 300) rfl (by kernel_rfl) (by kernel_rfl) (by kernel_rfl) rfl) ?_; intro bH aJ; clear J
 refine s1 aJ 29 (.bool ((((sreadS speed ([0, 44, 1] : List Int)).2.2 == 0) && ((swriteS speed ([9, 0, 0] : List Int) 30 1).2 == 0)) && ((sreadS speed ([0, 44, 1] : List Int)).1 == 300))) ?_; intro bI aK; clear aJ
 have L := aK.atom (((((sreadS speed ([0, 44, 1] : List Int)).2.2 == 0) && ((swriteS speed ([9, 0, 0] : List Int) 30 1).2 == 0)) && ((sreadS speed ([0, 44, 1] : List Int)).1 == 300)) == true) (by kernel_rfl); clear aK
 refine gd L (.agg (e30G ((sreadS speed ([0, 44, 1] : List Int)).2.1)).toArray) (m := 2) (cj := []) (bj := (((sreadS speed ([0, 44, 1] : List Int)).2.2 == 0) && ((swriteS speed ([9, 0, 0] : List Int) 30 1).2 == 0)) && ((sreadS speed ([0, 44, 1] : List Int)).1 == 300)) rfl rfl (by kernel_rfl) rfl (by kernel_rfl) (by kernel_rfl) (by kernel_rfl) (fun hg => lda L j 1 (g := [2]) (b := h) (off := 0) (k := 3) (cs := (e30G ((sreadS speed ([0, 44, 1] : List Int)).2.1))) (vs := (e30G ((sreadS speed ([0, 44, 1] : List Int)).2.1))) (ty := 30) rfl (by kernel_rfl) (by kernel_rfl) (by kernel_rfl) (by kernel_rfl) (by kernel_rfl) hg) ?_; intro bJ aL; clear L
 refine gp aL 31 2 [] ((((sreadS speed ([0, 44, 1] : List Int)).2.2 == 0) && ((swriteS speed ([9, 0, 0] : List Int) 30 1).2 == 0)) && ((sreadS speed ([0, 44, 1] : List Int)).1 == 300)) (.agg #[str ([115, 112, 101, 101, 100] : List UInt8), i6 30, i6 1]) rfl rfl ?_; intro bK M; clear aL
 refine gd M (.bool (((sreadS speed ([0, 44, 1] : List Int)).2.1.Name == ([115, 112, 101, 101, 100] : List UInt8)) && (((sreadS speed ([0, 44, 1] : List Int)).2.1.Num == 30) && (((sreadS speed ([0, 44, 1] : List Int)).2.1.Den == 1) && true)))) (m := 2) (cj := []) (bj := (((sreadS speed ([0, 44, 1] : List Int)).2.2 == 0) && ((swriteS speed ([9, 0, 0] : List Int) 30 1).2 == 0)) && ((sreadS speed ([0, 44, 1] : List Int)).1 == 300)) rfl rfl (by kernel_rfl) rfl (by kernel_rfl) (by kernel_rfl) (by kernel_rfl) (fun hg => eqs_run M (g := [2]) (xs := (e30G ((sreadS speed ([0, 44, 1] : List Int)).2.1)).toArray) (ys := #[str ([115, 112, 101, 101, 100] : List UInt8), i6 30, i6 1]) (b := ((sreadS speed ([0, 44, 1] : List Int)).2.1.Name == ([115, 112, 101, 101, 100] : List UInt8)) && (((sreadS speed ([0, 44, 1] : List Int)).2.1.Num == 30) && (((sreadS speed ([0, 44, 1] : List Int)).2.1.Den == 1) && true))) rfl (by kernel_rfl) (by kernel_rfl) (by kernel_rfl) (by kernel_rfl) hg) ?_; intro bL N; clear M
 refine st N (.bool (((((sreadS speed ([0, 44, 1] : List Int)).2.2 == 0) && ((swriteS speed ([9, 0, 0] : List Int) 30 1).2 == 0)) && ((sreadS speed ([0, 44, 1] : List Int)).1 == 300)) && (((sreadS speed ([0, 44, 1] : List Int)).2.1.Name == ([115, 112, 101, 101, 100] : List UInt8)) && (((sreadS speed ([0, 44, 1] : List Int)).2.1.Num == 30) && (((sreadS speed ([0, 44, 1] : List Int)).2.1.Den == 1) && true))))) (nog rfl _) rfl (by kernel_rfl) (pk_and N (g := []) (m := 2) (b := (((sreadS speed ([0, 44, 1] : List Int)).2.2 == 0) && ((swriteS speed ([9, 0, 0] : List Int) 30 1).2 == 0)) && ((sreadS speed ([0, 44, 1] : List Int)).1 == 300)) (v := ((sreadS speed ([0, 44, 1] : List Int)).2.1.Name == ([115, 112, 101, 101, 100] : List UInt8)) && (((sreadS speed ([0, 44, 1] : List Int)).2.1.Num == 30) && (((sreadS speed ([0, 44, 1] : List Int)).2.1.Den == 1) && true))) rfl (by kernel_rfl) (by kernel_rfl) (by kernel_rfl) rfl) ?_; intro bM aM; clear N
 refine s1 aM 34 (.bool (((((sreadS speed ([0, 44, 1] : List Int)).2.2 == 0) && ((swriteS speed ([9, 0, 0] : List Int) 30 1).2 == 0)) && ((sreadS speed ([0, 44, 1] : List Int)).1 == 300)) && (((sreadS speed ([0, 44, 1] : List Int)).2.1.Name == ([115, 112, 101, 101, 100] : List UInt8)) && (((sreadS speed ([0, 44, 1] : List Int)).2.1.Num == 30) && (((sreadS speed ([0, 44, 1] : List Int)).2.1.Den == 1) && true))))) ?_; intro bN t; clear aM
 rcases Bool.eq_false_or_eq_true (((((sreadS speed ([0, 44, 1] : List Int)).2.2 == 0) && ((swriteS speed ([9, 0, 0] : List Int) 30 1).2 == 0)) && ((sreadS speed ([0, 44, 1] : List Int)).1 == 300)) && (((sreadS speed ([0, 44, 1] : List Int)).2.1.Name == ([115, 112, 101, 101, 100] : List UInt8)) && (((sreadS speed ([0, 44, 1] : List Int)).2.1.Num == 30) && (((sreadS speed ([0, 44, 1] : List Int)).2.1.Den == 1) && true)))) with o | o
 · -- true
  have a9 := q.1 o; clear q
  have u := t.reval (d := 34) (c := []) (v := .bool (((((sreadS speed ([0, 44, 1] : List Int)).2.2 == 0) && ((swriteS speed ([9, 0, 0] : List Int) 30 1).2 == 0)) && ((sreadS speed ([0, 44, 1] : List Int)).1 == 300)) && (((sreadS speed ([0, 44, 1] : List Int)).2.1.Name == ([115, 112, 101, 101, 100] : List UInt8)) && (((sreadS speed ([0, 44, 1] : List Int)).2.1.Num == 30) && (((sreadS speed ([0, 44, 1] : List Int)).2.1.Den == 1) && true))))) (by kernel_rfl) (.bool true) (by rw [o]); clear t
  refine st u (.slice l (swriteS speed ([9, 0, 0] : List Int) 30 1).1.length n) (by rw [wanted_of u (b := true) rfl rfl (by kernel_rfl) (by kernel_rfl)]; rfl) rfl (by kernel_rfl) (p0 u (by kernel_rfl)) ?_; intro bO O; clear u
  refine sn O j (fun b => .slice (sm b) 3 3) [y8 9, y8 44, y8 1] 5 (by rw [wanted_of O (b := true) rfl rfl (by kernel_rfl) (by kernel_rfl)]; rfl) rfl (by kernel_rfl) (by kernel_rfl) ?_; intro y bP P Q ba; clear O j
  obtain ⟨aN, R, aO, S⟩ := ba.freeze 1 rfl
  replace f := f.mono R
  replace i := i.mono R
  replace a := Fz.le.trans a R
  have aP : Mem w.heap.size [] w Z [.row y [y8 9, y8 44, y8 1] 5, .row h (e30G ((sreadS speed ([0, 44, 1] : List Int)).2.1)) 30] aN P := aO; clear aO
  have bb : Mem w.heap.size [] w Z [.own t8 5 (sm y) 3 ([9, 44, 1] : List Int), .row h (e30G ((sreadS speed ([0, 44, 1] : List Int)).2.1)) 30] aN P := aP.rowOwn (T := t8) (xs := ([9, 44, 1] : List Int)) 0 rfl (by decide) (by show 3 ≤ lim; decide) ((RepAll.one (T := t8) (x := 9) rfl).append ((RepAll.one (T := t8) (x := 44) rfl).append (RepAll.one (T := t8) (x := 1) rfl))); clear aP
  obtain ⟨bc, z, aQ, bd⟩ := bb.freeze 0 rfl
  replace f := f.mono z
  replace i := i.mono z
  replace S := S.mono z
  replace a := Fz.le.trans a z
  have U : Mem w.heap.size [] w Z [.row h (e30G ((sreadS speed ([0, 44, 1] : List Int)).2.1)) 30] bc P := aQ; clear aQ
  refine fcl Q U (.bool (beqS (swriteS speed ([9, 0, 0] : List Int) 30 1).1 ([9, 44, 1] : List Int))) 14 #[.slice l (swriteS speed ([9, 0, 0] : List Int) 30 1).1.length n, .slice (sm y) ([9, 44, 1] : List Int).length 3] (by rw [wanted_of Q (b := true) rfl rfl (by kernel_rfl) (by kernel_rfl)]; rfl) rfl (by kernel_rfl) (fun _ => by kernel_rfl) (beq_fun (swriteS speed ([9, 0, 0] : List Int) 30 1).1 ([9, 44, 1] : List Int) l n (sm y) 3 _ _ S bd U.fz) ?_; intro bQ bR aR aS; clear Q U
  refine bt aR aS 2 [] [38] [(0, .bool (beqS (swriteS speed ([9, 0, 0] : List Int) 30 1).1 ([9, 44, 1] : List Int)))] ?_; intro bS be; clear aR
  refine nlH (s _ _ ?_); clear s az
  refine wp_ret ?_
  refine ra1 be (.bool (beqS (swriteS speed ([9, 0, 0] : List Int) 30 1).1 ([9, 44, 1] : List Int))) ?_
  exact ⟨(beqS (swriteS speed ([9, 0, 0] : List Int) 30 1).1 ([9, 44, 1] : List Int)), rfl, a9, aS.below⟩
 · -- false
  have bf := q.2 o; clear q
  have aT := t.reval (d := 34) (c := []) (v := .bool (((((sreadS speed ([0, 44, 1] : List Int)).2.2 == 0) && ((swriteS speed ([9, 0, 0] : List Int) 30 1).2 == 0)) && ((sreadS speed ([0, 44, 1] : List Int)).1 == 300)) && (((sreadS speed ([0, 44, 1] : List Int)).2.1.Name == ([115, 112, 101, 101, 100] : List UInt8)) && (((sreadS speed ([0, 44, 1] : List Int)).2.1.Num == 30) && (((sreadS speed ([0, 44, 1] : List Int)).2.1.Den == 1) && true))))) (by kernel_rfl) (.bool false) (by rw [o]); clear t
  refine bt aT j 5 [] [35, 36, 37, 38] [(0, .bool false)] ?_; intro bT bg; clear aT
  refine nlH (s _ _ ?_); clear s az
  refine wp_ret ?_
  refine ra1 bg (.bool false) ?_
  exact ⟨false, rfl, bf, j.below⟩

end Go.Proofs.Ytdndfbamhnchfaa
set_option linter.unusedVariables false
set_option linter.unusedSimpArgs false
set_option maxRecDepth 100000
set_option maxHeartbeats 0
namespace Go.Proofs.Ytdndfbamhnchfaa
open Go.Sy Go.RowKit
theorem gtrim_walk (u0 : List Int) (ao1 : Option Addr) (cap2 : Nat) (Z : Fz) (w : World) (hs3 : SlR (tyInt .u32) Z ao1 cap2 u0) (hZ : Z.on w) {K : (List Int) → Prop} (hp : gtrim_vc u0 K) : Calls Try.prog 72 #[.slice ao1 u0.length cap2] w fun e w' => ∃ (r : (List Int)) (ao1001 : Option Addr) (cap1002 : Nat) (Z' : Fz), e = .returned (.slice ao1001 r.length cap1002) ∧ K r ∧ SlR (tyInt .u32) Z' ao1001 cap1002 r ∧ Mem w.heap.size [] w Z [] Z' w' := by
 refine enter0 Try.func72 rfl rfl (by kernel_rfl) ?_; intro a0 D; have l := Mem.start w Z hZ; have aE := Fz.le.refl Z
 have ab := hp (hs3.small); clear hp
 refine sqB D l [] [] [] ?_; intro a6 E; clear D
 refine sqB E l [] [] [(3, i6 (u0.length : Int))] ?_; intro F G; clear E
 refine wp_seq ?_
 refine wp_block ?_
 have H : Fr 21 [] [⟨0, [], .slice ao1 u0.length cap2⟩, ⟨3, [], i6 (u0.length : Int)⟩] F := G.region (by kernel_rfl) (by kernel_rfl); clear G
 have I : Fr 21 [] [⟨0, [], .slice ao1 u0.length cap2⟩, ⟨3, [], i6 (u0.length : Int)⟩] F := H.region (by kernel_rfl) (by kernel_rfl); clear H
 obtain ⟨ac, ad, ae, af⟩ := ab
 refine lp (ι := Int) (fun s => [⟨0, [], .slice ao1 u0.length cap2⟩, ⟨3, [], i6 s⟩]) (fun s => []) (fun s => Z) (fun s => ac s) (fun s => ad s) (u0.length : Int) ae (by exact I.region (by kernel_rfl) (by kernel_rfl)) (by exact l) ?_
 rintro a ag ah ai J L
 have M : Fr 21 [] [⟨0, [], .slice ao1 u0.length cap2⟩, ⟨3, [], i6 a⟩] ah := J; clear J I
 have f : Mem w.heap.size [] w Z [] Z ai := L; clear L l
 have m := af a ag
 refine wp_seq ?_
 refine sqH ?_; intro N n
 refine bt M f 3 [] [] [(8, .bool (decide (a > 0)))] ?_; intro aF o; clear M
 rcases Bool.eq_false_or_eq_true (decide (a > 0)) with h | h
 · -- true
  have aj := m.1 h; clear m
  have O := o.reval (d := 8) (c := []) (v := .bool (decide (a > 0))) (by kernel_rfl) (.bool true) (by rw [h]); clear o
  refine bt O f 3 [] [9, 10, 11] [(9, .slice ao1 u0.length cap2), (11, i6 (w64 (a - 1)))] ?_; intro aG u; clear O
  obtain ⟨ak, P⟩ := aj
  refine ix u (T := (tyInt .u32)) (xs := u0) hs3 (w64 (a - 1)) ak (k := .i64) (e := 112) (bytes := 4) (by rw [wanted_of u (b := true) rfl rfl (by kernel_rfl) (by kernel_rfl)]; rfl) rfl (by kernel_rfl) rfl (by kernel_rfl) (by kernel_rfl) (by kernel_rfl) ?_; intro aH aI al i aJ am an ao p; clear u
  have q := P i am; clear P
  obtain rfl : al = ([.int .u32 i] : List Value) := ao
  refine st p (.int .u32 i) (by rw [wanted_of p (b := true) rfl rfl (by kernel_rfl) (by kernel_rfl)]; rfl) rfl (by kernel_rfl) (lz p f.fz an 0 (g := []) rfl (by kernel_rfl) (by kernel_rfl) (by kernel_rfl) rfl) ?_; intro aK Q; clear p
  refine bt Q f 2 [] [14, 15] [(15, .bool (i == 0))] ?_; intro aL j; clear Q
  refine nlH (n _ _ ?_); clear n N
  refine cd j (t := i == 0) (by kernel_rfl) (fun x => ?_) (fun x => ?_)
  · -- yes
   have R := q.1 x; clear q
   refine wp_skip ?_
   refine thn ?_
   refine wp_block ?_
   refine rgB j f [] [] [(3, i6 (w64 (a - 1)))] ?_; intro aM ap; clear j
   refine ibn ?_
   refine rd ?_
   exact ⟨w64 (a - 1), R.1, R.2, (ap.region (by kernel_rfl) (by kernel_rfl)).anyβ _ (by kernel_rfl), f.keep (List.Sublist.slnil)⟩
  · -- no
   have aq := q.2 x; clear q
   refine wp_exit ?_
   refine thx ?_
   refine thx ?_
   refine ibx ?_
   refine thn ?_
   refine sqH ?_; intro ar S
   refine bt j f 2 [] [] [(18, .slice ao1 u0.length cap2), (19, i6 a)] ?_; intro aN U; clear j
   obtain ⟨au, av⟩ := aq
   refine slH U (T := (tyInt .u32)) (xs := u0) hs3 a au (k' := .i64) (e := 112) (bytes := 4) (nog rfl _) rfl (by kernel_rfl) rfl (by kernel_rfl) (by kernel_rfl) (by kernel_rfl) ?_; intro y z aO aP aw V; clear U
   refine s1 V 2 (.slice y (u0.take a.toNat).length z) ?_; intro aQ ax; clear V
   refine nlH (S _ _ ?_); clear S ar
   refine wp_ret ?_
   refine ra1 ax (.slice y (u0.take a.toNat).length z) ?_
   exact ⟨u0.take a.toNat, y, z, Z, rfl, av, aw, f.keep (List.Sublist.slnil)⟩
 · -- false
  have ay := m.2 h; clear m
  have W := o.reval (d := 8) (c := []) (v := .bool (decide (a > 0))) (by kernel_rfl) (.bool false) (by rw [h]); clear o
  refine bt W f 7 [] [9, 10, 11, 12, 13, 14, 15] [(15, .bool false)] ?_; intro aR A; clear W
  refine nlH (n _ _ ?_); clear n N
  refine cdF A (by kernel_rfl) ?_
  refine wp_exit ?_
  refine thx ?_
  refine thx ?_
  refine ibx ?_
  refine thn ?_
  refine sqH ?_; intro az X
  refine bt A f 2 [] [] [(18, .slice ao1 u0.length cap2), (19, i6 a)] ?_; intro aS Y; clear A
  obtain ⟨aA, aB⟩ := ay
  refine slH Y (T := (tyInt .u32)) (xs := u0) hs3 a aA (k' := .i64) (e := 112) (bytes := 4) (nog rfl _) rfl (by kernel_rfl) rfl (by kernel_rfl) (by kernel_rfl) (by kernel_rfl) ?_; intro B C aT aU aC aa; clear Y
  refine s1 aa 2 (.slice B (u0.take a.toNat).length C) ?_; intro aV aD; clear aa
  refine nlH (X _ _ ?_); clear X az
  refine wp_ret ?_
  refine ra1 aD (.slice B (u0.take a.toNat).length C) ?_
  exact ⟨u0.take a.toNat, B, C, Z, rfl, aB, aC, f.keep (List.Sublist.slnil)⟩

theorem gplain_walk (u0 : List Int) (ao1 : Option Addr) (cap2 : Nat) (Z : Fz) (w : World) (hs3 : SlR (tyInt .u32) Z ao1 cap2 u0) (hZ : Z.on w) {K : Int → Prop} (hp : gplain_vc u0 K) : Calls Try.prog 84 #[.slice ao1 u0.length cap2] w fun e w' => ∃ r : Int, e = .returned (y6 r) ∧ K r ∧ Below w.heap.size w w' := by
 refine enter0 Try.func84 rfl rfl (by kernel_rfl) ?_; intro a0 p; have a := Mem.start w Z hZ; have av := Fz.le.refl Z
 have i := hp (hs3.small); clear hp
 refine sqB p a [] [] [] ?_; intro a6 q; clear p
 refine sqB q a [] [] [(3, y6 0)] ?_; intro a9 s; clear q
 refine wp_seq ?_
 refine sqB s a [] [] [(6, .bool (decide ((u0.length : Int) > 0)))] ?_; intro aw f; clear s
 refine cd f (t := decide ((u0.length : Int) > 0)) (by kernel_rfl) (fun m => ?_) (fun m => ?_)
 · -- yes
  have O := i.1 m; clear i
  refine rgH ?_; intro P u
  refine s1 f 7 (.slice ao1 u0.length cap2) ?_; intro ax v; clear f
  obtain ⟨Q, x⟩ := O
  refine ix v (T := (tyInt .u32)) (xs := u0) hs3 (0 : Int) Q (k := .i64) (e := 112) (bytes := 4) (nog rfl _) rfl (by kernel_rfl) rfl (by kernel_rfl) (by kernel_rfl) (by kernel_rfl) ?_; intro ay az R b aA S U V y; clear v
  have j := x b S; clear x
  obtain rfl : R = ([.int .u32 b] : List Value) := V
  refine z1 y a 9 U 0 (.int .u32 b) rfl ?_; intro aB z; clear y
  refine bt z a 2 [] [] [(3, y6 (wu64 b))] ?_; intro aC A; clear z
  refine nlH (u _ _ ?_); clear u P
  refine thn ?_
  refine wp_seq ?_
  refine sqB A a [] [] [(13, .bool (decide ((u0.length : Int) > 1)))] ?_; intro aD g; clear A
  refine cd g (t := decide ((u0.length : Int) > 1)) (by kernel_rfl) (fun n => ?_) (fun n => ?_)
  · -- yes
   have W := j.1 n; clear j
   refine rgH ?_; intro X B
   refine bt g a 2 [] [] [(14, y6 (wu64 b)), (15, .slice ao1 u0.length cap2)] ?_; intro aE C; clear g
   obtain ⟨Y, D⟩ := W
   refine ix C (T := (tyInt .u32)) (xs := u0) hs3 (1 : Int) Y (k := .i64) (e := 112) (bytes := 4) (nog rfl _) rfl (by kernel_rfl) rfl (by kernel_rfl) (by kernel_rfl) (by kernel_rfl) ?_; intro aF aG aa c aH ab ac ad E; clear C
   have ae := D c ab; clear D
   obtain rfl : aa = ([.int .u32 c] : List Value) := ad
   refine z1 E a 17 ac 0 (.int .u32 c) rfl ?_; intro aI F; clear E
   refine bt F a 4 [] [] [(3, y6 (bOr .u64 (wu64 b) (bShl .u64 (wu64 c) 32)))] ?_; intro aJ G; clear F
   refine nlH (B _ _ ?_); clear B X
   refine thn ?_
   refine sqB G a [] [] [(2, y6 (bOr .u64 (wu64 b) (bShl .u64 (wu64 c) 32)))] ?_; intro aK af; clear G
   refine wp_ret ?_
   refine ra1 af (y6 (bOr .u64 (wu64 b) (bShl .u64 (wu64 c) 32))) ?_
   exact ⟨bOr .u64 (wu64 b) (bShl .u64 (wu64 c) 32), rfl, ae, a.below⟩
  · -- no
   have ag := j.2 n; clear j
   refine wp_skip ?_
   refine thn ?_
   refine sqB g a [] [] [(2, y6 (wu64 b))] ?_; intro aL ah; clear g
   refine wp_ret ?_
   refine ra1 ah (y6 (wu64 b)) ?_
   exact ⟨wu64 b, rfl, ag, a.below⟩
 · -- no
  have l := i.2 m; clear i
  refine wp_skip ?_
  refine thn ?_
  refine wp_seq ?_
  refine sqB f a [] [] [(13, .bool (decide ((u0.length : Int) > 1)))] ?_; intro aM h; clear f
  refine cd h (t := decide ((u0.length : Int) > 1)) (by kernel_rfl) (fun o => ?_) (fun o => ?_)
  · -- yes
   have ai := l.1 o; clear l
   refine rgH ?_; intro aj H
   refine bt h a 2 [] [] [(14, y6 0), (15, .slice ao1 u0.length cap2)] ?_; intro aN I; clear h
   obtain ⟨ak, J⟩ := ai
   refine ix I (T := (tyInt .u32)) (xs := u0) hs3 (1 : Int) ak (k := .i64) (e := 112) (bytes := 4) (nog rfl _) rfl (by kernel_rfl) rfl (by kernel_rfl) (by kernel_rfl) (by kernel_rfl) ?_; intro aO aP al d aQ am an ao L; clear I
   have ap := J d am; clear J
   obtain rfl : al = ([.int .u32 d] : List Value) := ao
   refine z1 L a 17 an 0 (.int .u32 d) rfl ?_; intro aR M; clear L
   refine bt M a 4 [] [] [(3, y6 (bOr .u64 0 (bShl .u64 (wu64 d) 32)))] ?_; intro aS N; clear M
   refine nlH (H _ _ ?_); clear H aj
   refine thn ?_
   refine sqB N a [] [] [(2, y6 (bOr .u64 0 (bShl .u64 (wu64 d) 32)))] ?_; intro aT aq; clear N
   refine wp_ret ?_
   refine ra1 aq (y6 (bOr .u64 0 (bShl .u64 (wu64 d) 32))) ?_
   exact ⟨bOr .u64 0 (bShl .u64 (wu64 d) 32), rfl, ap, a.below⟩
  · -- no
   have ar := l.2 o; clear l
   refine wp_skip ?_
   refine thn ?_
   refine sqB h a [] [] [(2, y6 0)] ?_; intro aU au; clear h
   refine wp_ret ?_
   refine ra1 au (y6 0) ?_
   exact ⟨0, rfl, ar, a.below⟩

theorem gcmp_walk (u0 : List Int) (u1 : List Int) (ao1 : Option Addr) (cap2 : Nat) (ao4 : Option Addr) (cap5 : Nat) (Z : Fz) (w : World) (hs3 : SlR (tyInt .u32) Z ao1 cap2 u0) (hs6 : SlR (tyInt .u32) Z ao4 cap5 u1) (hZ : Z.on w) {K : Int → Prop} (hp : gcmp_vc u0 u1 K) : Calls Try.prog 57 #[.slice ao1 u0.length cap2, .slice ao4 u1.length cap5] w fun e w' => ∃ r : Int, e = .returned (i6 r) ∧ K r ∧ Below w.heap.size w w' := by
 refine enter0 Try.func57 rfl rfl (by kernel_rfl) ?_; intro a0 J; have b := Mem.start w Z hZ; have bf := Fz.le.refl Z
 have L := hp (hs3.small); clear hp
 have p := L (hs6.small); clear L
 refine sqB J b [] [] [] ?_; intro bg M; clear J
 refine wp_seq ?_
 refine sqB M b [] [] [(10, .bool ((u0.length : Int) != (u1.length : Int)))] ?_; intro bh c; clear M
 refine cd c (t := (u0.length : Int) != (u1.length : Int)) (by kernel_rfl) (fun A => ?_) (fun A => ?_)
 · -- yes
  have q := p.1 A; clear p
  refine wp_seq ?_
  refine sqB c b [] [] [(15, .bool (decide ((u0.length : Int) < (u1.length : Int))))] ?_; intro bi d; clear c
  refine cd d (t := decide ((u0.length : Int) < (u1.length : Int))) (by kernel_rfl) (fun B => ?_) (fun B => ?_)
  · -- yes
   have ar := q.1 B; clear q
   refine sqB d b [] [] [(4, i6 (-1))] ?_; intro bj au; clear d
   refine wp_ret ?_
   refine thr ?_
   refine thr ?_
   refine ra1 au (i6 (-1)) ?_
   exact ⟨-1, rfl, ar, b.below⟩
  · -- no
   have av := q.2 B; clear q
   refine wp_skip ?_
   refine thn ?_
   refine sqB d b [] [] [(4, i6 1)] ?_; intro bk aw; clear d
   refine wp_ret ?_
   refine thr ?_
   refine ra1 aw (i6 1) ?_
   exact ⟨1, rfl, av, b.below⟩
 · -- no
  have ax := p.2 A; clear p
  refine wp_skip ?_
  refine thn ?_
  refine wp_seq ?_
  refine sqB c b [] [] [(5, i6 (w64 ((u0.length : Int) - 1)))] ?_; intro N O; clear c
  refine wp_block ?_
  have P : Fr 41 [] [⟨0, [], .slice ao1 u0.length cap2⟩, ⟨1, [], .slice ao4 u1.length cap5⟩, ⟨5, [], i6 (w64 ((u0.length : Int) - 1))⟩] N := O.region (by kernel_rfl) (by kernel_rfl); clear O
  have Q : Fr 41 [] [⟨0, [], .slice ao1 u0.length cap2⟩, ⟨1, [], .slice ao4 u1.length cap5⟩, ⟨5, [], i6 (w64 ((u0.length : Int) - 1))⟩] N := P.region (by kernel_rfl) (by kernel_rfl); clear P
  obtain ⟨ay, az, aA, aB⟩ := ax
  refine lp (ι := Int) (fun s => [⟨0, [], .slice ao1 u0.length cap2⟩, ⟨1, [], .slice ao4 u1.length cap5⟩, ⟨5, [], i6 s⟩]) (fun s => []) (fun s => Z) (fun s => ay s) (fun s => az s) (w64 ((u0.length : Int) - 1)) aA (by exact Q.region (by kernel_rfl) (by kernel_rfl)) (by exact b) ?_
  rintro a aC aD aE R S
  have U : Fr 41 [] [⟨0, [], .slice ao1 u0.length cap2⟩, ⟨1, [], .slice ao4 u1.length cap5⟩, ⟨5, [], i6 a⟩] aD := R; clear R Q
  have f : Mem w.heap.size [] w Z [] Z aE := S; clear S b
  have u := aB a aC
  refine wp_seq ?_
  refine sqB U f [] [] [(20, .bool (decide (a ≥ 0)))] ?_; intro aF h; clear U
  refine cd h (t := decide (a ≥ 0)) (by kernel_rfl) (fun C => ?_) (fun C => ?_)
  · -- yes
   have aG := u.1 C; clear u
   refine wp_skip ?_
   refine thn ?_
   refine wp_seq ?_
   refine wp_block ?_
   have V : Fr 41 [] [⟨0, [], .slice ao1 u0.length cap2⟩, ⟨1, [], .slice ao4 u1.length cap5⟩, ⟨5, [], i6 a⟩] aF := h.region (by kernel_rfl) (by kernel_rfl); clear h
   refine sqQH mixed (by kernel_rfl) f ?_; intro aH W
   refine q1 V 23 (.slice ao1 u0.length cap2) ?_; intro bl X; clear V
   refine q1 X 24 (i6 a) ?_; intro bm Y; clear X
   obtain ⟨aI, aa⟩ := aG
   refine qix Y (T := (tyInt .u32)) (xs := u0) hs3 a aI (k := .i64) (e := 112) (bytes := 4) (nog rfl _) rfl (by kernel_rfl) rfl (by kernel_rfl) (by kernel_rfl) (by kernel_rfl) ?_; intro bn bo aJ i bp aK aL aM D; clear Y
   have aN := aa i aK; clear aa
   obtain rfl : aJ = ([.int .u32 i] : List Value) := aM
   refine qst D (.int .u32 i) (nog rfl _) rfl (by kernel_rfl) (fun v97 hC => lz D hC.fz aL 0 (g := []) rfl (by kernel_rfl) (by kernel_rfl) (by kernel_rfl) rfl) ?_; intro bq ab; clear D
   refine q1 ab 27 (.slice ao4 u1.length cap5) ?_; intro br ac; clear ab
   refine q1 ac 28 (i6 a) ?_; intro bs ad; clear ac
   obtain ⟨aO, ae⟩ := aN
   refine qix ad (T := (tyInt .u32)) (xs := u1) hs6 a aO (k := .i64) (e := 112) (bytes := 4) (nog rfl _) rfl (by kernel_rfl) rfl (by kernel_rfl) (by kernel_rfl) (by kernel_rfl) ?_; intro bt bu aP j bv aQ aR aS E; clear ad
   have v := ae j aQ; clear ae
   obtain rfl : aP = ([.int .u32 j] : List Value) := aS
   refine qst E (.int .u32 j) (nog rfl _) rfl (by kernel_rfl) (fun v119 hC => lz E hC.fz aR 0 (g := []) rfl (by kernel_rfl) (by kernel_rfl) (by kernel_rfl) rfl) ?_; intro bw af; clear E
   refine q1 af 31 (.bool (i != j)) ?_; intro aT l; clear af
   refine qnl (W _ ?_); clear W aH; intro bx x; clear f
   refine cd l (t := i != j) (by kernel_rfl) (fun F => ?_) (fun F => ?_)
   · -- yes
    have aU := v.1 F; clear v
    refine wp_seq ?_
    have ag : Fr 41 [] [⟨0, [], .slice ao1 u0.length cap2⟩, ⟨1, [], .slice ao4 u1.length cap5⟩, ⟨5, [], i6 a⟩] aT := l.region (by kernel_rfl) (by kernel_rfl); clear l
    refine sqQH mixed (by kernel_rfl) x ?_; intro aV ah
    refine q1 ag 32 (.slice ao1 u0.length cap2) ?_; intro bz ai; clear ag
    refine q1 ai 33 (i6 a) ?_; intro bA aj; clear ai
    obtain ⟨aW, ak⟩ := aU
    refine qix aj (T := (tyInt .u32)) (xs := u0) hs3 a aW (k := .i64) (e := 112) (bytes := 4) (nog rfl _) rfl (by kernel_rfl) rfl (by kernel_rfl) (by kernel_rfl) (by kernel_rfl) ?_; intro bB bC aX m bD aY aZ a1 G; clear aj
    have a2 := ak m aY; clear ak
    obtain rfl : aX = ([.int .u32 m] : List Value) := a1
    refine qst G (.int .u32 m) (nog rfl _) rfl (by kernel_rfl) (fun v150 hC => lz G hC.fz aZ 0 (g := []) rfl (by kernel_rfl) (by kernel_rfl) (by kernel_rfl) rfl) ?_; intro bE al; clear G
    refine q1 al 36 (.slice ao4 u1.length cap5) ?_; intro bF am; clear al
    refine q1 am 37 (i6 a) ?_; intro bG an; clear am
    obtain ⟨a3, ao⟩ := a2
    refine qix an (T := (tyInt .u32)) (xs := u1) hs6 a a3 (k := .i64) (e := 112) (bytes := 4) (nog rfl _) rfl (by kernel_rfl) rfl (by kernel_rfl) (by kernel_rfl) (by kernel_rfl) ?_; intro bH bI a4 n bJ a5 a6 a7 H; clear an
    have y := ao n a5; clear ao
    obtain rfl : a4 = ([.int .u32 n] : List Value) := a7
    refine qst H (.int .u32 n) (nog rfl _) rfl (by kernel_rfl) (fun v172 hC => lz H hC.fz a6 0 (g := []) rfl (by kernel_rfl) (by kernel_rfl) (by kernel_rfl) rfl) ?_; intro bK ap; clear H
    refine q1 ap 40 (.bool (decide (m < n))) ?_; intro bL o; clear ap
    refine qnl (ah _ ?_); clear ah aV; intro bM z; clear x
    refine cd o (t := decide (m < n)) (by kernel_rfl) (fun I => ?_) (fun I => ?_)
    · -- yes
     have a8 := y.1 I; clear y
     refine sqB o z [] [] [(4, i6 (-1))] ?_; intro bN a9; clear o
     refine wp_ret ?_
     refine thr ?_
     refine ibr ?_
     refine thr ?_
     refine thr ?_
     refine ibr ?_
     refine thr ?_
     refine ra1 a9 (i6 (-1)) ?_
     exact ⟨-1, rfl, a8, z.below⟩
    · -- no
     have ba := y.2 I; clear y
     refine wp_skip ?_
     refine thn ?_
     refine sqB o z [] [] [(4, i6 1)] ?_; intro bO bb; clear o
     refine wp_ret ?_
     refine ibr ?_
     refine thr ?_
     refine thr ?_
     refine ibr ?_
     refine thr ?_
     refine ra1 bb (i6 1) ?_
     exact ⟨1, rfl, ba, z.below⟩
   · -- no
    have aq := v.2 F; clear v
    refine wp_skip ?_
    refine ibn ?_
    refine thn ?_
    refine rgB l x [] [] [(5, i6 (w64 (a - 1)))] ?_; intro bP bc; clear l
    refine rd ?_
    exact ⟨w64 (a - 1), aq.1, aq.2, (bc.region (by kernel_rfl) (by kernel_rfl)).anyβ _ (by kernel_rfl), x.keep (List.Sublist.slnil)⟩
  · -- no
   have bd := u.2 C; clear u
   refine wp_exit ?_
   refine thx ?_
   refine thx ?_
   refine ibx ?_
   refine thn ?_
   refine sqB h f [] [] [(4, i6 0)] ?_; intro bQ be; clear h
   refine wp_ret ?_
   refine ra1 be (i6 0) ?_
   exact ⟨0, rfl, bd, f.below⟩

end Go.Proofs.Ytdndfbamhnchfaa
set_option linter.unusedVariables false
set_option linter.unusedSimpArgs false
set_option maxRecDepth 100000
set_option maxHeartbeats 0
namespace Go.Proofs.Ytdndfbamhnchfaa
open Go.Sy Go.RowKit
theorem gtrim_fun (u0 : List Int) (ao1 : Option Addr) (cap2 : Nat) (Z : Fz) (w : World) (hs3 : SlR (tyInt .u32) Z ao1 cap2 u0) (hZ : Z.on w) : Calls Try.prog 72 #[.slice ao1 u0.length cap2] w fun e w' => ∃ (ao1001 : Option Addr) (cap1002 : Nat) (Z' : Fz), e = .returned (.slice ao1001 (gtrimS u0).length cap1002) ∧ SlR (tyInt .u32) Z' ao1001 cap1002 (gtrimS u0) ∧ Mem w.heap.size [] w Z [] Z' w' :=
  (gtrim_walk u0 ao1 cap2 Z w hs3 hZ (gtrim_ok u0)).mono fun _ _ ⟨r, h0, h1, h2, he, hk, f0, hm⟩ => by subst hk; exact ⟨h0, h1, h2, he, f0, hm⟩

theorem gtwin_walk (u0 : List Int) (ao1 : Option Addr) (cap2 : Nat) (Z : Fz) (w : World) (hs3 : SlR (tyInt .u32) Z ao1 cap2 u0) (hZ : Z.on w) {K : (List Int) → Prop} (hp : gtwin_vc u0 K) : Calls Try.prog 67 #[.slice ao1 u0.length cap2] w fun e w' => ∃ (r : (List Int)) (ao1001 : Option Addr) (cap1002 : Nat) (Z' : Fz), e = .returned (.slice ao1001 r.length cap1002) ∧ K r ∧ Mem w.heap.size [] w Z [.own (tyInt .u32) 112 ao1001 cap1002 r] Z' w' := by
 refine enter0 Try.func67 rfl rfl (by kernel_rfl) ?_; intro u f; have c := Mem.start w Z hZ; have v := Fz.le.refl Z
 have l := hp (hs3.small); clear hp
 refine sqB f c [] [] [] ?_; intro x g; clear f
 refine sqH ?_; intro m h
 refine s1 g 3 (.slice ao1 u0.length cap2) ?_; intro y i; clear g
 have d : Mem w.heap.size [] w Z [.own (tyInt .u32) 112 none 0 ([] : List Int)] Z w := c.addNil (tyInt .u32) 112 (by decide); clear c
 obtain ⟨n, o⟩ := l
 refine ap i d 0 (T := (tyInt .u32)) (xs := ([] : List Int)) (ys := u0) (ao := none) (cap := 0) (ao2 := ao1) (cap2 := cap2) (t := 37) (e := 112) (bytes := 4) (nog rfl _) rfl (by kernel_rfl) rfl (by kernel_rfl) (by kernel_rfl) (by kernel_rfl) rfl (Src.fz (by decide) d.fz hs3) n ?_; intro a b z p A j k; clear i d
 have q : Mem w.heap.size [] w Z [.own (tyInt .u32) 112 a b (([] : List Int) ++ u0)] Z p := k; clear k
 refine s1 j 2 (.slice a (([] : List Int) ++ u0).length b) ?_; intro B s; clear j
 refine nlH (h _ _ ?_); clear h m
 refine wp_ret ?_
 refine ra1 s (.slice a (([] : List Int) ++ u0).length b) ?_
 exact ⟨([] : List Int) ++ u0, a, b, Z, rfl, o, q.keep (List.Sublist.cons_cons _ (List.Sublist.slnil))⟩

theorem gwords_walk (u0 : Int)  (Z : Fz) (w : World)  (hZ : Z.on w) {K : (List Int) → Prop} (hp : gwords_vc u0 K) : Calls Try.prog 71 #[y6 u0] w fun e w' => ∃ (r : (List Int)) (ao1001 : Option Addr) (cap1002 : Nat) (Z' : Fz), e = .returned (.slice ao1001 r.length cap1002) ∧ K r ∧ SlR (tyInt .u32) Z' ao1001 cap1002 r ∧ Mem w.heap.size [] w Z [] Z' w' := by
 refine enter0 Try.func71 rfl rfl (by kernel_rfl) ?_; intro H j; have a := Mem.start w Z hZ; have c := Fz.le.refl Z
 refine sqB j a [] [] [] ?_; intro I k; clear j
 refine sqH ?_; intro z l
 refine bt k a 5 [] [] [(4, .int .u32 (wu32 u0)), (7, .int .u32 (wu32 (bShr .u64 u0 32)))] ?_; intro J m; clear k
 refine nw m a (fun b => .slice (sm b) 2 2) [.int .u32 (wu32 u0), .int .u32 (wu32 (bShr .u64 u0 32))] 112 ?_; intro d L n o p; clear m a
 have A : Mem w.heap.size [] w Z [.own (tyInt .u32) 112 (sm d) 2 ([wu32 u0, wu32 (bShr .u64 u0 32)] : List Int)] Z n := p.rowOwn (T := (tyInt .u32)) (xs := ([wu32 u0, wu32 (bShr .u64 u0 32)] : List Int)) 0 rfl (by decide) (by show 2 ≤ lim; decide) ((RepAll.one (T := (tyInt .u32)) (x := wu32 u0) rfl).append (RepAll.one (T := (tyInt .u32)) (x := wu32 (bShr .u64 u0 32)) rfl)); clear p
 obtain ⟨B, C, q, f⟩ := A.freeze 0 rfl
 replace c := Fz.le.trans c C
 have g : Mem w.heap.size [] w Z [] B n := q; clear q
 refine ck o 72 #[.slice (sm d) ([wu32 u0, wu32 (bShr .u64 u0 32)] : List Int).length 2] ?_
 refine (gtrim_fun ([wu32 u0, wu32 (bShr .u64 u0 32)] : List Int) (sm d) 2 _ _ f g.fz).mono ?_; rintro _ D ⟨h, i, s, rfl, t, hm⟩; refine ⟨_, rfl, ?_⟩; intro M u; have v := g.callZ hm; have y := hm.ext.le; clear hm g o
 replace f := f.mono y
 replace c := Fz.le.trans c y
 have E : Mem w.heap.size [] w Z [] s D := v; clear v
 have F := hp (t.small); clear hp
 refine s1 u 2 (.slice h (gtrimS ([wu32 u0, wu32 (bShr .u64 u0 32)] : List Int)).length i) ?_; intro N G; clear u
 refine nlH (l _ _ ?_); clear l z
 refine wp_ret ?_
 refine ra1 G (.slice h (gtrimS ([wu32 u0, wu32 (bShr .u64 u0 32)] : List Int)).length i) ?_
 exact ⟨(gtrimS ([wu32 u0, wu32 (bShr .u64 u0 32)] : List Int)), h, i, s, rfl, F, t, E.keep (List.Sublist.slnil)⟩

end Go.Proofs.Ytdndfbamhnchfaa
set_option linter.unusedVariables false
set_option linter.unusedSimpArgs false
set_option maxRecDepth 100000
set_option maxHeartbeats 0
namespace Go.Proofs.Ytdndfbamhnchfaa
open Go.Sy Go.RowKit
abbrev e41Nc (X : BRat) (A0 : Option Addr) (C0 : Nat) (A1 : Option Addr) (C1 : Nat) : List Value := [.bool X.a.neg, .slice A0 X.a.abs.length C0, .bool X.b.neg, .slice A1 X.b.abs.length C1]
theorem gplain_fun (u0 : List Int) (hpre : wok u0) (ao1 : Option Addr) (cap2 : Nat) (Z : Fz) (w : World) (hs3 : SlR (tyInt .u32) Z ao1 cap2 u0) (hZ : Z.on w) : Calls Try.prog 84 #[.slice ao1 u0.length cap2] w fun e w' => e = .returned (y6 (gplainS u0)) ∧ Below w.heap.size w w' :=
  (gplain_walk u0 ao1 cap2 Z w hs3 hZ (gplain_ok u0 hpre)).mono fun _ _ ⟨r, he, hk, hb⟩ => ⟨by subst hk; exact he, hb⟩

theorem gcmp_fun (u0 : List Int) (u1 : List Int) (hpre : u0.length ≤ 1000 ∧ u1.length ≤ 1000 ∧ u0 = ws (wv u0) ∧ u1 = ws (wv u1)) (ao1 : Option Addr) (cap2 : Nat) (ao4 : Option Addr) (cap5 : Nat) (Z : Fz) (w : World) (hs3 : SlR (tyInt .u32) Z ao1 cap2 u0) (hs6 : SlR (tyInt .u32) Z ao4 cap5 u1) (hZ : Z.on w) : Calls Try.prog 57 #[.slice ao1 u0.length cap2, .slice ao4 u1.length cap5] w fun e w' => e = .returned (i6 (gcmpS u0 u1)) ∧ Below w.heap.size w w' :=
  (gcmp_walk u0 u1 ao1 cap2 ao4 cap5 Z w hs3 hs6 hZ (gcmp_ok u0 u1 hpre)).mono fun _ _ ⟨r, he, hk, hb⟩ => ⟨by subst hk; exact he, hb⟩

theorem gtwin_fun (u0 : List Int) (hpre : u0.length ≤ 1000000) (ao1 : Option Addr) (cap2 : Nat) (Z : Fz) (w : World) (hs3 : SlR (tyInt .u32) Z ao1 cap2 u0) (hZ : Z.on w) : Calls Try.prog 67 #[.slice ao1 u0.length cap2] w fun e w' => ∃ (ao1001 : Option Addr) (cap1002 : Nat) (Z' : Fz), e = .returned (.slice ao1001 (gtwinS u0).length cap1002) ∧ Mem w.heap.size [] w Z [.own (tyInt .u32) 112 ao1001 cap1002 (gtwinS u0)] Z' w' :=
  (gtwin_walk u0 ao1 cap2 Z w hs3 hZ (gtwin_ok u0 hpre)).mono fun _ _ ⟨r, h0, h1, h2, he, hk, hm⟩ => by subst hk; exact ⟨h0, h1, h2, he, hm⟩

theorem gwords_fun (u0 : Int) (hpre : 0 ≤ u0 ∧ u0 ≤ 18446744073709551615)  (Z : Fz) (w : World)  (hZ : Z.on w) : Calls Try.prog 71 #[y6 u0] w fun e w' => ∃ (ao1001 : Option Addr) (cap1002 : Nat) (Z' : Fz), e = .returned (.slice ao1001 (gwordsS u0).length cap1002) ∧ SlR (tyInt .u32) Z' ao1001 cap1002 (gwordsS u0) ∧ Mem w.heap.size [] w Z [] Z' w' :=
  (gwords_walk u0  Z w  hZ (gwords_ok u0 hpre)).mono fun _ _ ⟨r, h0, h1, h2, he, hk, f0, hm⟩ => by subst hk; exact ⟨h0, h1, h2, he, f0, hm⟩

theorem gdiv_walk (u0 : List Int) (u1 : List Int) (ao1 : Option Addr) (cap2 : Nat) (ao4 : Option Addr) (cap5 : Nat) (Z : Fz) (w : World) (hs3 : SlR (tyInt .u32) Z ao1 cap2 u0) (hs6 : SlR (tyInt .u32) Z ao4 cap5 u1) (hZ : Z.on w) {K : ((List Int) × (List Int)) → Prop} (hp : gdiv_vc u0 u1 K) : Calls Try.prog 70 #[.slice ao1 u0.length cap2, .slice ao4 u1.length cap5] w fun e w' => ∃ (r : (List Int) × (List Int)) (ao1001 : Option Addr) (cap1002 : Nat) (ao1004 : Option Addr) (cap1005 : Nat) (Z' : Fz), e = .returned (.tuple #[.slice ao1001 r.1.length cap1002, .slice ao1004 r.2.length cap1005]) ∧ K r ∧ SlR (tyInt .u32) Z' ao1001 cap1002 r.1 ∧ SlR (tyInt .u32) Z' ao1004 cap1005 r.2 ∧ Mem w.heap.size [] w Z [] Z' w' := by
 refine enter0 Try.func70 rfl rfl (by kernel_rfl) ?_; intro a0 G; have c := Mem.start w Z hZ; have a := Fz.le.refl Z
 have H := hp (hs3.small); clear hp
 have an := H (hs6.small); clear H
 refine sqB G c [] [] [] ?_; intro a2 I; clear G
 refine wp_seq ?_
 refine sqB I c [] [] [(30, .bool ((u1.length : Int) == 0))] ?_; intro a3 n; clear I
 obtain ⟨ao, ap⟩ := an
 refine cn n ao ?_
 refine wp_skip ?_
 refine thn ?_
 refine wp_seq ?_
 refine sqH ?_; intro aq J
 refine bt n c 2 [] [] [(31, .slice ao1 u0.length cap2), (32, .slice ao4 u1.length cap5)] ?_; intro a4 L; clear n
 obtain ⟨ar, i⟩ := ap
 refine fc L c (gcmp_fun u0 u1 ar ao1 cap2 ao4 cap5 _ _ hs3 hs6 c.fz) ?_; intro a5 a6 M b; clear L c
 refine s1 M 34 (.bool (decide ((gcmpS u0 u1) < 0))) ?_; intro a7 f; clear M
 refine nlH (J _ _ ?_); clear J aq
 refine cd f (t := decide ((gcmpS u0 u1) < 0)) (by kernel_rfl) (fun o => ?_) (fun o => ?_)
 ·
  have au := i.1 o; clear i
  refine sqH ?_; intro av N
  refine s1 f 35 (.slice ao1 u0.length cap2) ?_; intro a8 O; clear f
  obtain ⟨aw, P⟩ := au
  refine ck O 67 #[.slice ao1 u0.length cap2] ?_
  refine (gtwin_fun u0 aw ao1 cap2 _ _ hs3 b.fz).mono ?_; rintro _ Q ⟨j, k, ax, rfl, hm⟩; refine ⟨_, rfl, ?_⟩; intro a9 R; have S := b.callZ hm; have p := hm.ext.le; clear hm b O
  replace hs3 := hs3.mono p
  replace hs6 := hs6.mono p
  replace a := Fz.le.trans a p
  have q : Mem w.heap.size [] w Z [.own (tyInt .u32) 112 j k (gtwinS u0)] ax Q := S; clear S
  have ay := P (q.ownSmall 0 rfl); clear P
  refine bt R q 2 [] [] [(4, .slice none 0 0), (5, .slice j (gtwinS u0).length k)] ?_; intro ba az; clear R
  refine nlH (N _ _ ?_); clear N av
  refine wp_ret ?_
  refine thr ?_
  obtain ⟨T, s, U, aA⟩ := q.freeze 0 rfl
  replace hs3 := hs3.mono s
  replace hs6 := hs6.mono s
  replace a := Fz.le.trans a s
  have aB : Mem w.heap.size [] w Z [] T Q := U; clear U
  refine ra2 az (.tuple #[.slice none 0 0, .slice j (gtwinS u0).length k]) ?_
  exact ⟨([], (gtwinS u0)), none, 0, j, k, T, rfl, ay, (SlR.nil _ _), aA, aB.keep (List.Sublist.slnil)⟩
 have aC := i.2 o; clear i
 refine wp_skip ?_
 refine thn ?_
 refine wp_seq ?_
 refine sqB f b [] [] [(39, .bool (decide ((u0.length : Int) ≤ 2)))] ?_; intro bb u; clear f
 obtain ⟨aD, aE⟩ := aC
 refine cy u aD ?_
 refine sqH ?_; intro aF V
 refine s1 u 40 (.slice ao1 u0.length cap2) ?_; intro bc W; clear u
 obtain ⟨aG, aH⟩ := aE
 refine fc W b (gplain_fun u0 aG ao1 cap2 _ _ hs3 b.fz) ?_; intro bd be X v; clear W b
 refine s1 X 42 (.slice ao4 u1.length cap5) ?_; intro bf Y; clear X
 obtain ⟨aI, aJ⟩ := aH
 refine fc Y v (gplain_fun u1 aI ao4 cap5 _ _ hs6 v.fz) ?_; intro bg bh aa x; clear Y v
 refine bt aa x 2 [] [] [(6, y6 (gplainS u0)), (7, y6 (gplainS u1))] ?_; intro aK ab; clear aa
 refine nlH (V _ _ ?_); clear V aF
 have ac : Fr 273 [] [⟨6, [], y6 (gplainS u0)⟩, ⟨7, [], y6 (gplainS u1)⟩] aK := ab.reg; clear ab
 refine wp_seq (rgS mixed x [(0, true), (1, true), (4, true), (5, true), (2, true), (6, true), (3, false), (7, false), (8, true), (9, true)] [] [] [] ?_)
 intro aL ad bi y; clear x
 have d := Fz.le.refl Z
 refine cS ac 4 [] [] [(44, y6 (gplainS u0)), (45, y6 (gplainS u1)), (48, y6 (gplainS u0)), (49, y6 (gplainS u1))] ?_; intro bj z; clear ac
 obtain ⟨aM, aN⟩ := aJ
 refine cst rfl z (y6 (wu64 ((gplainS u0).tdiv (gplainS u1)))) (nog rfl _) rfl (by kernel_rfl) (fun v108 hC => quo_run z (g := []) rfl (by kernel_rfl) (by kernel_rfl) aM rfl) ?_; intro bk A; clear z
 obtain ⟨aO, aP⟩ := aN
 refine cst rfl A (y6 ((gplainS u0).tmod (gplainS u1))) (nog rfl _) rfl (by kernel_rfl) (fun v113 hC => rem_run A (g := []) rfl (by kernel_rfl) (by kernel_rfl) aO rfl) ?_; intro bl ae; clear A
 refine eS rfl ?_; intro aQ af
 obtain ⟨aR, aS⟩ := aP
 refine ck ae 71 #[y6 (wu64 ((gplainS u0).tdiv (gplainS u1)))] ?_
 refine (gwords_fun (wu64 ((gplainS u0).tdiv (gplainS u1))) aR _ _ y.fz).mono ?_; rintro _ aT ⟨B, C, aU, rfl, D, hm⟩; refine ⟨_, rfl, ?_⟩; intro bm ag; have ah := y.callZ hm; have l := hm.ext.le; clear hm y ae
 replace hs3 := hs3.mono l
 replace hs6 := hs6.mono l
 replace d := d.mono l
 replace a := Fz.le.trans a l
 have m : Mem w.heap.size [] w Z [] aU aT := ah; clear ah
 refine nl (qnI (af _ _ (m.cst d []) ?_)); clear af aQ
 refine eS rfl ?_; intro aV ai
 obtain ⟨aW, aX⟩ := aS
 refine ck ag 71 #[y6 ((gplainS u0).tmod (gplainS u1))] ?_
 refine (gwords_fun ((gplainS u0).tmod (gplainS u1)) aW _ _ m.fz).mono ?_; rintro _ aY ⟨E, F, aj, rfl, aZ, hm⟩; refine ⟨_, rfl, ?_⟩; intro bn ak; have al := m.callZ hm; have h := hm.ext.le; clear hm m ag
 replace hs3 := hs3.mono h
 replace hs6 := hs6.mono h
 replace d := d.mono h
 replace D := D.mono h
 replace a := Fz.le.trans a h
 have am : Mem w.heap.size [] w Z [] aj aY := al; clear al
 refine nl (qnI (ai _ _ (am.cst d []) ?_)); clear ai aV
 refine cS ak 2 [] [] [(4, .slice B (gwordsS (wu64 ((gplainS u0).tdiv (gplainS u1)))).length C), (5, .slice E (gwordsS ((gplainS u0).tmod (gplainS u1))).length F)] ?_; intro bo a1; clear ak
 refine nS (ad _ _ ?_); clear ad aL
 refine thn ?_
 refine wp_ret ?_
 refine thr ?_
 refine ra2 a1 (.tuple #[.slice B (gwordsS (wu64 ((gplainS u0).tdiv (gplainS u1)))).length C, .slice E (gwordsS ((gplainS u0).tmod (gplainS u1))).length F]) ?_
 exact ⟨((gwordsS (wu64 ((gplainS u0).tdiv (gplainS u1)))), (gwordsS ((gplainS u0).tmod (gplainS u1)))), B, C, E, F, aj, rfl, aX, D, aZ, am.keep (List.Sublist.slnil)⟩

theorem gcom_walk (u0 : List Int) (u1 : List Int) (ao1 : Option Addr) (cap2 : Nat) (ao4 : Option Addr) (cap5 : Nat) (Z : Fz) (w : World) (hs3 : SlR (tyInt .u32) Z ao1 cap2 u0) (hs6 : SlR (tyInt .u32) Z ao4 cap5 u1) (hZ : Z.on w) {K : (List Int) → Prop} (hp : gcom_vc u0 u1 K) : Calls Try.prog 69 #[.slice ao1 u0.length cap2, .slice ao4 u1.length cap5] w fun e w' => ∃ (r : (List Int)) (ao1001 : Option Addr) (cap1002 : Nat) (Z' : Fz), e = .returned (.slice ao1001 r.length cap1002) ∧ K r ∧ SlR (tyInt .u32) Z' ao1001 cap1002 r ∧ Mem w.heap.size [] w Z [] Z' w' := by
 refine enter0 Try.func69 rfl rfl (by kernel_rfl) ?_; intro a0 H; have q := Mem.start w Z hZ; have I := Fz.le.refl Z
 have J := hp (hs3.small); clear hp
 have av := J (hs6.small); clear J
 refine sqB H q [] [] [] ?_; intro L M; clear H
 refine wp_seq ?_
 refine wp_block ?_
 have N : Fr 49 [] [⟨0, [], .slice ao1 u0.length cap2⟩, ⟨1, [], .slice ao4 u1.length cap5⟩] L := M.reg; clear M
 have O : Fr 49 [] [⟨0, [], .slice ao1 u0.length cap2⟩, ⟨1, [], .slice ao4 u1.length cap5⟩] L := N.reg; clear N
 obtain ⟨aw, ax, ay, az⟩ := av
 refine lp (ι := (List Int) × (List Int) × (Option Addr) × Nat × (Option Addr) × Nat) (fun s => [⟨0, [], .slice s.2.2.1 s.1.length s.2.2.2.1⟩, ⟨1, [], .slice s.2.2.2.2.1 s.2.1.length s.2.2.2.2.2⟩]) (fun s => []) (fun s => Z) (fun s => aw s.1 s.2.1 ∧ SlR (tyInt .u32) Z s.2.2.1 s.2.2.2.1 s.1 ∧ SlR (tyInt .u32) Z s.2.2.2.2.1 s.2.2.2.2.2 s.2.1) (fun s => ax s.1 s.2.1) ⟨u0, u1, ao1, cap2, ao4, cap5⟩ ⟨ay, hs3, hs6⟩ (by exact O.reg) (by exact q) ?_
 rintro ⟨b, d, h, i, u, v⟩ ⟨aA, n, x⟩ aB aC P Q
 have R : Fr 49 [] [⟨0, [], .slice h b.length i⟩, ⟨1, [], .slice u d.length v⟩] aB := P; clear P O
 have f : Mem w.heap.size [] w Z [] Z aC := Q; clear Q q
 have aD := az b d aA
 refine wp_seq ?_
 refine sqB R f [] [] [(13, .bool (decide ((d.length : Int) > 2)))] ?_; intro ba y; clear R
 obtain ⟨aE, o⟩ := aD
 refine cn y aE ?_
 refine wp_exit ?_
 refine thx ?_
 refine thx ?_
 refine ibx ?_
 refine thn ?_
 refine wp_seq ?_
 refine sqB y f [] [] [(24, .bool ((d.length : Int) == 0))] ?_; intro bb k; clear y
 refine cd k (t := (d.length : Int) == 0) (by kernel_rfl) (fun z => ?_) (fun z => ?_)
 ·
  have aF := o.1 z; clear o
  refine sqB k f [] [] [(4, .slice h b.length i)] ?_; intro bc aG; clear k
  refine wp_ret ?_
  refine thr ?_
  refine ra1 aG (.slice h b.length i) ?_
  exact ⟨b, h, i, Z, rfl, aF, n, f.keep (List.Sublist.slnil)⟩
 have aH := o.2 z; clear o
 refine wp_skip ?_
 refine thn ?_
 refine wp_seq ?_
 refine sqB k f [] [] [(28, .bool (decide ((b.length : Int) > 2)))] ?_; intro bd A; clear k
 obtain ⟨aI, aJ⟩ := aH
 refine cn A aI ?_
 refine wp_skip ?_
 refine thn ?_
 refine sqH ?_; intro aK S
 refine s1 A 37 (.slice h b.length i) ?_; intro be T; clear A
 obtain ⟨aL, aM⟩ := aJ
 refine fc T f (gplain_fun b aL h i _ _ n f.fz) ?_; intro bf bg U B; clear T f
 refine s1 U 39 (.slice u d.length v) ?_; intro bh V; clear U
 obtain ⟨aN, aO⟩ := aM
 refine fc V B (gplain_fun d aN u v _ _ x B.fz) ?_; intro bi bj W C; clear V B
 refine bt W C 2 [] [] [(9, y6 (gplainS b)), (10, y6 (gplainS d))] ?_; intro X Y; clear W
 refine nlH (S _ _ ?_); clear S aK
 refine wp_seq ?_
 refine wp_block ?_
 have aa : Fr 49 [] [⟨9, [], y6 (gplainS b)⟩, ⟨10, [], y6 (gplainS d)⟩] X := Y.reg; clear Y
 have ab : Fr 49 [] [⟨9, [], y6 (gplainS b)⟩, ⟨10, [], y6 (gplainS d)⟩] X := aa.reg; clear aa
 obtain ⟨aP, aQ, aR, aS⟩ := aO
 refine lp (ι := Int × Int) (fun s => [⟨9, [], y6 s.1⟩, ⟨10, [], y6 s.2⟩]) (fun s => []) (fun s => Z) (fun s => aP s.1 s.2) (fun s => aQ s.1 s.2) ⟨(gplainS b), (gplainS d)⟩ aR (by exact ab.reg) (by exact C) ?_
 rintro ⟨a, c⟩ aT aU aV ac ad
 have ae : Fr 49 [] [⟨9, [], y6 a⟩, ⟨10, [], y6 c⟩] aU := ac; clear ac ab
 have j : Mem w.heap.size [] w Z [] Z aV := ad; clear ad C
 have p := aS a c aT
 refine wp_seq ?_
 refine sqB ae j [] [] [(42, .bool (decide (c > 0)))] ?_; intro aW l; clear ae
 refine cd l (t := decide (c > 0)) (by kernel_rfl) (fun D => ?_) (fun D => ?_)
 ·
  have aX := p.1 D; clear p
  refine wp_skip ?_
  refine thn ?_
  refine wp_block ?_
  have af : Fr 49 [] [⟨9, [], y6 a⟩, ⟨10, [], y6 c⟩] aW := l.reg; clear l
  refine qrgH mixed (by kernel_rfl) j ?_; intro aY ag
  refine q1 af 43 (y6 c) ?_; intro bk ah; clear af
  refine q1 ah 44 (y6 a) ?_; intro bl ai; clear ah
  refine q1 ai 45 (y6 c) ?_; intro bm E; clear ai
  obtain ⟨aZ, aj⟩ := aX
  refine qst E (y6 (a.tmod c)) (nog rfl _) rfl (by kernel_rfl) (fun v114 hC => rem_run E (g := []) rfl (by kernel_rfl) (by kernel_rfl) aZ rfl) ?_; intro bn ak; clear E
  refine q1 ak 9 (y6 c) ?_; intro bo al; clear ak
  refine q1 al 10 (y6 (a.tmod c)) ?_; intro bp a1; clear al
  refine qnl (ag _ ?_); clear ag aY; intro bq a2; clear j
  refine ibn ?_
  refine rd ?_
  exact ⟨⟨c, a.tmod c⟩, aj.1, aj.2, (a1.reg).anyβ _ (by kernel_rfl), a2.keep (List.Sublist.slnil)⟩
 have a3 := p.2 D; clear p
 refine wp_exit ?_
 refine thx ?_
 refine thx ?_
 refine ibx ?_
 refine thn ?_
 refine sqH ?_; intro a4 am
 refine s1 l 47 (y6 a) ?_; intro br an; clear l
 obtain ⟨a5, ao⟩ := a3
 refine ck an 71 #[y6 a] ?_
 refine (gwords_fun a a5 _ _ j.fz).mono ?_; rintro _ a6 ⟨F, G, ap, rfl, aq, hm⟩; refine ⟨_, rfl, ?_⟩; intro bs ar; have au := j.callZ hm; have m := hm.ext.le; clear hm j an
 replace hs3 := hs3.mono m
 replace hs6 := hs6.mono m
 replace n := n.mono m
 replace x := x.mono m
 replace I := Fz.le.trans I m
 have a7 : Mem w.heap.size [] w Z [] ap a6 := au; clear au
 have a8 := ao (aq.small); clear ao
 refine s1 ar 4 (.slice F (gwordsS a).length G) ?_; intro bu a9; clear ar
 refine nlH (am _ _ ?_); clear am a4
 refine wp_ret ?_
 refine ra1 a9 (.slice F (gwordsS a).length G) ?_
 exact ⟨(gwordsS a), F, G, ap, rfl, a8, aq, a7.keep (List.Sublist.slnil)⟩

theorem ggive_walk (u0 : BInt) (u1 : Bool) (u2 : List Int) (b1 : Nat) (ao2 : Option Addr) (cap3 : Nat) (ao5 : Option Addr) (cap6 : Nat) (B : Nat) (w0 : World) (Z0 : Fz) (Rr : List Res) (Z : Fz) (w : World) (hs4 : SlR (tyInt .u32) Z ao2 cap3 u0.abs) (hs7 : SlR (tyInt .u32) Z ao5 cap6 u2) (hM0 : Mem B [] w0 Z0 ((.row b1 [.bool u0.neg, .slice ao2 u0.abs.length cap3] 39) :: Rr) Z w) (hZ : Z.on w) {K : BInt → Prop} (hp : ggive_vc u0 u1 u2 K) : Calls Try.prog 58 #[pt b1 0, .bool u1, .slice ao5 u2.length cap6] w fun e w' => ∃ (r : BInt) (ao1001 : Option Addr) (cap1002 : Nat) (Z' : Fz), e = .returned (pt b1 0) ∧ K r ∧ Fz.le Z Z' ∧ SlR (tyInt .u32) Z' ao1001 cap1002 r.abs ∧ Mem B [] w0 Z0 ((.row b1 [.bool r.neg, .slice ao1001 r.abs.length cap1002] 39) :: Rr) Z' w' := by
 refine enter0 Try.func58 rfl rfl (by kernel_rfl) ?_; intro u d; have m := Fz.le.refl Z
 have f := hp (hs4.small); clear hp
 have n := f (hs7.small); clear f
 refine sqB d hM0 [] [] [] ?_; intro v g; clear d
 refine sqH ?_; intro o h
 refine bt g hM0 4 [] [] [(8, .slice ao5 u2.length cap6), (10, pt b1 1)] ?_; intro x a; clear g
 refine sx a hM0 0 [.bool u0.neg, .slice ao5 u2.length cap6] 1 ?_; intro p i; clear hM0
 have b : Mem B [] w0 Z0 ((.row b1 [.bool u0.neg, .slice ao5 u2.length cap6] 39) :: Rr) Z p := i; clear i
 refine nlH (h _ _ ?_); clear h o
 refine sqH ?_; intro q j
 refine bt a b 9 [] [] [(17, .bool (u1 && (decide ((u2.length : Int) > 0)))), (19, pt b1 0)] ?_; intro y c; clear a
 refine sx c b 0 [.bool (u1 && (decide ((u2.length : Int) > 0))), .slice ao5 u2.length cap6] 0 ?_; intro s k; clear b
 have l : Mem B [] w0 Z0 ((.row b1 [.bool (u1 && (decide ((u2.length : Int) > 0))), .slice ao5 u2.length cap6] 39) :: Rr) Z s := k; clear k
 refine nlH (j _ _ ?_); clear j q
 refine sqB c l [] [] [(6, pt b1 0)] ?_; intro z t; clear c
 refine wp_ret ?_
 refine ra1 t (pt b1 0) ?_
 exact ⟨(⟨u1 && (decide ((u2.length : Int) > 0)), u2⟩ : BInt), ao5, cap6, Z, rfl, n, m, hs7, l.keep (List.Sublist.cons_cons _ (List.Sublist.refl _))⟩
theorem ggive_fun (u0 : BInt) (u1 : Bool) (u2 : List Int) (b1 : Nat) (ao2 : Option Addr) (cap3 : Nat) (ao5 : Option Addr) (cap6 : Nat) (B : Nat) (w0 : World) (Z0 : Fz) (Rr : List Res) (Z : Fz) (w : World) (hs4 : SlR (tyInt .u32) Z ao2 cap3 u0.abs) (hs7 : SlR (tyInt .u32) Z ao5 cap6 u2) (hM0 : Mem B [] w0 Z0 ((.row b1 [.bool u0.neg, .slice ao2 u0.abs.length cap3] 39) :: Rr) Z w) (hZ : Z.on w) : Calls Try.prog 58 #[pt b1 0, .bool u1, .slice ao5 u2.length cap6] w fun e w' => ∃ (ao1001 : Option Addr) (cap1002 : Nat) (Z' : Fz), e = .returned (pt b1 0) ∧ Fz.le Z Z' ∧ SlR (tyInt .u32) Z' ao1001 cap1002 (ggive u0 u1 u2).abs ∧ Mem B [] w0 Z0 ((.row b1 [.bool (ggive u0 u1 u2).neg, .slice ao1001 (ggive u0 u1 u2).abs.length cap1002] 39) :: Rr) Z' w' :=
  (ggive_walk u0 u1 u2 b1 ao2 cap3 ao5 cap6 B w0 Z0 Rr Z w hs4 hs7 hM0 hZ (ggive_ok u0 u1 u2)).mono fun _ _ ⟨r, h0, h1, h2, he, hk, f0, f1, hm⟩ => by subst hk; exact ⟨h0, h1, h2, he, f0, f1, hm⟩

theorem ggiveA_walk (u0 : BRat) (u1 : Bool) (u2 : List Int) (b1 : Nat) (ao2 : Option Addr) (cap3 : Nat) (ao5 : Option Addr) (cap6 : Nat) (ao8 : Option Addr) (cap9 : Nat) (B : Nat) (w0 : World) (Z0 : Fz) (Rr : List Res) (Z : Fz) (w : World) (hs4 : SlR (tyInt .u32) Z ao2 cap3 u0.a.abs) (hs7 : SlR (tyInt .u32) Z ao5 cap6 u0.b.abs) (hs10 : SlR (tyInt .u32) Z ao8 cap9 u2) (hM0 : Mem B [] w0 Z0 ((.row b1 [.bool u0.a.neg, .slice ao2 u0.a.abs.length cap3, .bool u0.b.neg, .slice ao5 u0.b.abs.length cap6] 41) :: Rr) Z w) (hZ : Z.on w) {K : BRat → Prop} (hp : ggiveA_vc u0 u1 u2 K) : Calls Try.prog 58 #[pt b1 0, .bool u1, .slice ao8 u2.length cap9] w fun e w' => ∃ (r : BRat) (ao1001 : Option Addr) (cap1002 : Nat) (ao1004 : Option Addr) (cap1005 : Nat) (Z' : Fz), e = .returned (pt b1 0) ∧ K r ∧ Fz.le Z Z' ∧ SlR (tyInt .u32) Z' ao1001 cap1002 r.a.abs ∧ SlR (tyInt .u32) Z' ao1004 cap1005 r.b.abs ∧ Mem B [] w0 Z0 ((.row b1 [.bool r.a.neg, .slice ao1001 r.a.abs.length cap1002, .bool r.b.neg, .slice ao1004 r.b.abs.length cap1005] 41) :: Rr) Z' w' := by
 refine enter0 Try.func58 rfl rfl (by kernel_rfl) ?_; intro y g; have p := Fz.le.refl Z
 have h := hp (hs4.small); clear hp
 have i := h (hs7.small); clear h
 have q := i (hs10.small); clear i
 refine sqB g hM0 [] [] [] ?_; intro z j; clear g
 refine sqH ?_; intro s k
 refine bt j hM0 4 [] [] [(8, .slice ao8 u2.length cap9), (10, pt b1 1)] ?_; intro A c; clear j
 refine sx c hM0 0 [.bool u0.a.neg, .slice ao8 u2.length cap9, .bool u0.b.neg, .slice ao5 u0.b.abs.length cap6] 1 ?_; intro t l; clear hM0
 have d : Mem B [] w0 Z0 ((.row b1 [.bool u0.a.neg, .slice ao8 u2.length cap9, .bool u0.b.neg, .slice ao5 u0.b.abs.length cap6] 41) :: Rr) Z t := l; clear l
 refine nlH (k _ _ ?_); clear k s
 refine sqH ?_; intro u m
 refine bt c d 9 [] [] [(17, .bool (u1 && (decide ((u2.length : Int) > 0)))), (19, pt b1 0)] ?_; intro C f; clear c
 refine sx f d 0 [.bool (u1 && (decide ((u2.length : Int) > 0))), .slice ao8 u2.length cap9, .bool u0.b.neg, .slice ao5 u0.b.abs.length cap6] 0 ?_; intro v n; clear d
 have o : Mem B [] w0 Z0 ((.row b1 [.bool (u1 && (decide ((u2.length : Int) > 0))), .slice ao8 u2.length cap9, .bool u0.b.neg, .slice ao5 u0.b.abs.length cap6] 41) :: Rr) Z v := n; clear n
 refine nlH (m _ _ ?_); clear m u
 refine sqB f o [] [] [(6, pt b1 0)] ?_; intro D x; clear f
 refine wp_ret ?_
 refine ra1 x (pt b1 0) ?_
 exact ⟨(⟨(⟨u1 && (decide ((u2.length : Int) > 0)), u2⟩ : BInt), u0.b⟩ : BRat), ao8, cap9, ao5, cap6, Z, rfl, q, p, hs10, hs7, o.keep (List.Sublist.cons_cons _ (List.Sublist.refl _))⟩
theorem ggiveA_fun (u0 : BRat) (u1 : Bool) (u2 : List Int) (b1 : Nat) (ao2 : Option Addr) (cap3 : Nat) (ao5 : Option Addr) (cap6 : Nat) (ao8 : Option Addr) (cap9 : Nat) (B : Nat) (w0 : World) (Z0 : Fz) (Rr : List Res) (Z : Fz) (w : World) (hs4 : SlR (tyInt .u32) Z ao2 cap3 u0.a.abs) (hs7 : SlR (tyInt .u32) Z ao5 cap6 u0.b.abs) (hs10 : SlR (tyInt .u32) Z ao8 cap9 u2) (hM0 : Mem B [] w0 Z0 ((.row b1 [.bool u0.a.neg, .slice ao2 u0.a.abs.length cap3, .bool u0.b.neg, .slice ao5 u0.b.abs.length cap6] 41) :: Rr) Z w) (hZ : Z.on w) : Calls Try.prog 58 #[pt b1 0, .bool u1, .slice ao8 u2.length cap9] w fun e w' => ∃ (ao1001 : Option Addr) (cap1002 : Nat) (ao1004 : Option Addr) (cap1005 : Nat) (Z' : Fz), e = .returned (pt b1 0) ∧ Fz.le Z Z' ∧ SlR (tyInt .u32) Z' ao1001 cap1002 (ggiveA u0 u1 u2).a.abs ∧ SlR (tyInt .u32) Z' ao1004 cap1005 (ggiveA u0 u1 u2).b.abs ∧ Mem B [] w0 Z0 ((.row b1 [.bool (ggiveA u0 u1 u2).a.neg, .slice ao1001 (ggiveA u0 u1 u2).a.abs.length cap1002, .bool (ggiveA u0 u1 u2).b.neg, .slice ao1004 (ggiveA u0 u1 u2).b.abs.length cap1005] 41) :: Rr) Z' w' :=
  (ggiveA_walk u0 u1 u2 b1 ao2 cap3 ao5 cap6 ao8 cap9 B w0 Z0 Rr Z w hs4 hs7 hs10 hM0 hZ (ggiveA_ok u0 u1 u2)).mono fun _ _ ⟨r, h0, h1, h2, h3, h4, he, hk, f0, f1, f2, hm⟩ => by subst hk; exact ⟨h0, h1, h2, h3, h4, he, f0, f1, f2, hm⟩

theorem ggiveB_walk (u0 : BRat) (u1 : Bool) (u2 : List Int) (b1 : Nat) (ao2 : Option Addr) (cap3 : Nat) (ao5 : Option Addr) (cap6 : Nat) (ao8 : Option Addr) (cap9 : Nat) (B : Nat) (w0 : World) (Z0 : Fz) (Rr : List Res) (Z : Fz) (w : World) (hs4 : SlR (tyInt .u32) Z ao2 cap3 u0.a.abs) (hs7 : SlR (tyInt .u32) Z ao5 cap6 u0.b.abs) (hs10 : SlR (tyInt .u32) Z ao8 cap9 u2) (hM0 : Mem B [] w0 Z0 ((.row b1 [.bool u0.a.neg, .slice ao2 u0.a.abs.length cap3, .bool u0.b.neg, .slice ao5 u0.b.abs.length cap6] 41) :: Rr) Z w) (hZ : Z.on w) {K : BRat → Prop} (hp : ggiveB_vc u0 u1 u2 K) : Calls Try.prog 58 #[pt b1 2, .bool u1, .slice ao8 u2.length cap9] w fun e w' => ∃ (r : BRat) (ao1001 : Option Addr) (cap1002 : Nat) (ao1004 : Option Addr) (cap1005 : Nat) (Z' : Fz), e = .returned (pt b1 2) ∧ K r ∧ Fz.le Z Z' ∧ SlR (tyInt .u32) Z' ao1001 cap1002 r.a.abs ∧ SlR (tyInt .u32) Z' ao1004 cap1005 r.b.abs ∧ Mem B [] w0 Z0 ((.row b1 [.bool r.a.neg, .slice ao1001 r.a.abs.length cap1002, .bool r.b.neg, .slice ao1004 r.b.abs.length cap1005] 41) :: Rr) Z' w' := by
 refine enter0 Try.func58 rfl rfl (by kernel_rfl) ?_; intro y g; have p := Fz.le.refl Z
 have h := hp (hs4.small); clear hp
 have i := h (hs7.small); clear h
 have q := i (hs10.small); clear i
 refine sqB g hM0 [] [] [] ?_; intro z j; clear g
 refine sqH ?_; intro s k
 refine bt j hM0 4 [] [] [(8, .slice ao8 u2.length cap9), (10, pt b1 3)] ?_; intro A c; clear j
 refine sx c hM0 0 [.bool u0.a.neg, .slice ao2 u0.a.abs.length cap3, .bool u0.b.neg, .slice ao8 u2.length cap9] 3 ?_; intro t l; clear hM0
 have d : Mem B [] w0 Z0 ((.row b1 [.bool u0.a.neg, .slice ao2 u0.a.abs.length cap3, .bool u0.b.neg, .slice ao8 u2.length cap9] 41) :: Rr) Z t := l; clear l
 refine nlH (k _ _ ?_); clear k s
 refine sqH ?_; intro u m
 refine bt c d 9 [] [] [(17, .bool (u1 && (decide ((u2.length : Int) > 0)))), (19, pt b1 2)] ?_; intro C f; clear c
 refine sx f d 0 [.bool u0.a.neg, .slice ao2 u0.a.abs.length cap3, .bool (u1 && (decide ((u2.length : Int) > 0))), .slice ao8 u2.length cap9] 2 ?_; intro v n; clear d
 have o : Mem B [] w0 Z0 ((.row b1 [.bool u0.a.neg, .slice ao2 u0.a.abs.length cap3, .bool (u1 && (decide ((u2.length : Int) > 0))), .slice ao8 u2.length cap9] 41) :: Rr) Z v := n; clear n
 refine nlH (m _ _ ?_); clear m u
 refine sqB f o [] [] [(6, pt b1 2)] ?_; intro D x; clear f
 refine wp_ret ?_
 refine ra1 x (pt b1 2) ?_
 exact ⟨(⟨u0.a, (⟨u1 && (decide ((u2.length : Int) > 0)), u2⟩ : BInt)⟩ : BRat), ao2, cap3, ao8, cap9, Z, rfl, q, p, hs4, hs10, o.keep (List.Sublist.cons_cons _ (List.Sublist.refl _))⟩
theorem ggiveB_fun (u0 : BRat) (u1 : Bool) (u2 : List Int) (b1 : Nat) (ao2 : Option Addr) (cap3 : Nat) (ao5 : Option Addr) (cap6 : Nat) (ao8 : Option Addr) (cap9 : Nat) (B : Nat) (w0 : World) (Z0 : Fz) (Rr : List Res) (Z : Fz) (w : World) (hs4 : SlR (tyInt .u32) Z ao2 cap3 u0.a.abs) (hs7 : SlR (tyInt .u32) Z ao5 cap6 u0.b.abs) (hs10 : SlR (tyInt .u32) Z ao8 cap9 u2) (hM0 : Mem B [] w0 Z0 ((.row b1 [.bool u0.a.neg, .slice ao2 u0.a.abs.length cap3, .bool u0.b.neg, .slice ao5 u0.b.abs.length cap6] 41) :: Rr) Z w) (hZ : Z.on w) : Calls Try.prog 58 #[pt b1 2, .bool u1, .slice ao8 u2.length cap9] w fun e w' => ∃ (ao1001 : Option Addr) (cap1002 : Nat) (ao1004 : Option Addr) (cap1005 : Nat) (Z' : Fz), e = .returned (pt b1 2) ∧ Fz.le Z Z' ∧ SlR (tyInt .u32) Z' ao1001 cap1002 (ggiveB u0 u1 u2).a.abs ∧ SlR (tyInt .u32) Z' ao1004 cap1005 (ggiveB u0 u1 u2).b.abs ∧ Mem B [] w0 Z0 ((.row b1 [.bool (ggiveB u0 u1 u2).a.neg, .slice ao1001 (ggiveB u0 u1 u2).a.abs.length cap1002, .bool (ggiveB u0 u1 u2).b.neg, .slice ao1004 (ggiveB u0 u1 u2).b.abs.length cap1005] 41) :: Rr) Z' w' :=
  (ggiveB_walk u0 u1 u2 b1 ao2 cap3 ao5 cap6 ao8 cap9 B w0 Z0 Rr Z w hs4 hs7 hs10 hM0 hZ (ggiveB_ok u0 u1 u2)).mono fun _ _ ⟨r, h0, h1, h2, h3, h4, he, hk, f0, f1, f2, hm⟩ => by subst hk; exact ⟨h0, h1, h2, h3, h4, he, f0, f1, f2, hm⟩

theorem gnew_walk (u0 : Int)  (Z : Fz) (w : World)  (hZ : Z.on w) {K : BInt → Prop} (hp : gnew_vc u0 K) : Calls Try.prog 32 #[i6 u0] w fun e w' => ∃ (r : BInt) (b1001 : Nat) (ao1002 : Option Addr) (cap1003 : Nat) (Z' : Fz), e = .returned (pt b1001 0) ∧ K r ∧ SlR (tyInt .u32) Z' ao1002 cap1003 r.abs ∧ Mem w.heap.size [] w Z [.row b1001 [.bool r.neg, .slice ao1002 r.abs.length cap1003] 39] Z' w' := by
 refine enter0 Try.func32 rfl rfl (by kernel_rfl) ?_; intro a0 z; have l := Mem.start w Z hZ; have c := Fz.le.refl Z
 refine sqB z l [] [] [] ?_; intro a2 A; clear z
 refine sqH ?_; intro B i
 refine nw A l pb [.bool false, .slice none 0 0] 39 ?_; intro a a6 aP C b; clear A l
 refine s1 C 4 (i6 u0) ?_; intro aQ m; clear C
 refine ck m 56 #[pt a 0, i6 u0] ?_
 refine enter0 Try.func56 rfl rfl (by kernel_rfl) ?_; intro au D
 have E : Fr 18 [] [⟨0, [], pt a 0⟩, ⟨1, [], i6 u0⟩] au := D.reg; clear D
 refine sqB E b [] [] [] ?_; intro aR F; clear E
 refine sqB F b [] [] [(5, y6 (wu64 u0))] ?_; intro aS G; clear F
 refine wp_seq ?_
 refine sqB G b [] [] [(9, .bool (decide (u0 < 0)))] ?_; intro aT f; clear G
 refine cd f (t := decide (u0 < 0)) (by kernel_rfl) (fun n => ?_) (fun n => ?_)
 ·
  have av := hp.1 n; clear hp
  refine rgB f b [] [] [(5, y6 (wu64 (0 - (wu64 u0))))] ?_; intro aU H; clear f
  refine thn ?_
  refine sqH ?_; intro aw I
  refine bt H b 4 [] [] [(12, pt a 0), (14, .bool (decide (u0 < 0))), (15, y6 (wu64 (0 - (wu64 u0))))] ?_; intro aV J; clear H
  obtain ⟨ax, L⟩ := av
  refine ck J 71 #[y6 (wu64 (0 - (wu64 u0)))] ?_
  refine (gwords_fun (wu64 (0 - (wu64 u0))) ax _ _ b.fz).mono ?_; rintro _ ay ⟨M, N, az, rfl, j, hm⟩; refine ⟨_, rfl, ?_⟩; intro aW O; have P := b.callZ hm; have aA := hm.ext.le; clear hm b J
  replace c := Fz.le.trans c aA
  have o : Mem w.heap.size [] w Z [.row a [.bool false, .slice none 0 0] 39] az ay := P; clear P
  have Q := L (j.small); clear L
  refine ck O 58 #[pt a 0, .bool (decide (u0 < 0)), .slice M (gwordsS (wu64 (0 - (wu64 u0)))).length N] ?_
  obtain ⟨g, aB, R⟩ := hxq Q; clear Q
  have d := ggive_fun (⟨false, []⟩ : BInt) (decide (u0 < 0)) (gwordsS (wu64 (0 - (wu64 u0)))) a none 0 M N _ _ _ _ _ _ (SlR.nil _ _) j o o.fz; rw [aB] at d; refine d.mono ?_; clear d; rintro _ S ⟨p, q, s, rfl, T, U, hm⟩; refine ⟨_, rfl, ?_⟩; intro aX V; have W := hm; clear hm o O
  replace j := j.mono T
  replace c := Fz.le.trans c T
  have X : Mem w.heap.size [] w Z [.row a [.bool g.neg, .slice p g.abs.length q] 39] s S := W; clear W
  have aC := R (U.small); clear R
  refine s1 V 4 (pt a 0) ?_; intro aY Y; clear V
  refine nlH (I _ _ ?_); clear I aw
  refine wp_ret ?_
  refine ra1 Y (pt a 0) ?_
  refine ⟨_, rfl, ?_⟩; intro aZ aa; clear m Y
  refine s1 aa 2 (pt a 0) ?_; intro a1 aD; clear aa
  have aE : Mem w.heap.size [] w Z [.row a [.bool g.neg, .slice p g.abs.length q] 39] s S := X; clear X
  refine nlH (i _ _ ?_); clear i B
  refine wp_ret ?_
  refine ra1 aD (pt a 0) ?_
  exact ⟨g, a, p, q, s, rfl, aC, U, aE.keep (List.Sublist.cons_cons _ (List.Sublist.slnil))⟩
 have aF := hp.2 n; clear hp
 refine wp_skip ?_
 refine thn ?_
 refine sqH ?_; intro aG ab
 refine bt f b 4 [] [] [(12, pt a 0), (14, .bool (decide (u0 < 0))), (15, y6 (wu64 u0))] ?_; intro a3 ac; clear f
 obtain ⟨aH, ad⟩ := aF
 refine ck ac 71 #[y6 (wu64 u0)] ?_
 refine (gwords_fun (wu64 u0) aH _ _ b.fz).mono ?_; rintro _ aI ⟨ae, af, aJ, rfl, k, hm⟩; refine ⟨_, rfl, ?_⟩; intro a4 ag; have ah := b.callZ hm; have aK := hm.ext.le; clear hm b ac
 replace c := Fz.le.trans c aK
 have u : Mem w.heap.size [] w Z [.row a [.bool false, .slice none 0 0] 39] aJ aI := ah; clear ah
 have ai := ad (k.small); clear ad
 refine ck ag 58 #[pt a 0, .bool (decide (u0 < 0)), .slice ae (gwordsS (wu64 u0)).length af] ?_
 obtain ⟨h, aL, aj⟩ := hxq ai; clear ai
 have d := ggive_fun (⟨false, []⟩ : BInt) (decide (u0 < 0)) (gwordsS (wu64 u0)) a none 0 ae af _ _ _ _ _ _ (SlR.nil _ _) k u u.fz; rw [aL] at d; refine d.mono ?_; clear d; rintro _ ak ⟨v, x, y, rfl, al, am, hm⟩; refine ⟨_, rfl, ?_⟩; intro a5 an; have ao := hm; clear hm u ag
 replace k := k.mono al
 replace c := Fz.le.trans c al
 have ap : Mem w.heap.size [] w Z [.row a [.bool h.neg, .slice v h.abs.length x] 39] y ak := ao; clear ao
 have aM := aj (am.small); clear aj
 refine s1 an 4 (pt a 0) ?_; intro a7 aq; clear an
 refine nlH (ab _ _ ?_); clear ab aG
 refine wp_ret ?_
 refine ra1 aq (pt a 0) ?_
 refine ⟨_, rfl, ?_⟩; intro a8 ar; clear m aq
 refine s1 ar 2 (pt a 0) ?_; intro a9 aN; clear ar
 have aO : Mem w.heap.size [] w Z [.row a [.bool h.neg, .slice v h.abs.length x] 39] y ak := ap; clear ap
 refine nlH (i _ _ ?_); clear i B
 refine wp_ret ?_
 refine ra1 aN (pt a 0) ?_
 exact ⟨h, a, v, x, y, rfl, aM, am, aO.keep (List.Sublist.cons_cons _ (List.Sublist.slnil))⟩

theorem rden_walk (u0 : BRat) (b1 : Nat) (ao2 : Option Addr) (cap3 : Nat) (ao5 : Option Addr) (cap6 : Nat) (B : Nat) (w0 : World) (Z0 : Fz) (Rr : List Res) (Z : Fz) (w : World) (hs4 : SlR (tyInt .u32) Z ao2 cap3 u0.a.abs) (hs7 : SlR (tyInt .u32) Z ao5 cap6 u0.b.abs) (hM0 : Mem B [] w0 Z0 ((.row b1 [.bool u0.a.neg, .slice ao2 u0.a.abs.length cap3, .bool u0.b.neg, .slice ao5 u0.b.abs.length cap6] 41) :: Rr) Z w) (hZ : Z.on w) {K : BRat → Prop} (hp : rden_vc u0 K) : Calls Try.prog 33 #[pt b1 0] w fun e w' => ∃ (r : BRat) (ao1001 : Option Addr) (cap1002 : Nat) (ao1004 : Option Addr) (cap1005 : Nat) (Z' : Fz), e = .returned (pt b1 2) ∧ K r ∧ Fz.le Z Z' ∧ SlR (tyInt .u32) Z' ao1001 cap1002 r.a.abs ∧ SlR (tyInt .u32) Z' ao1004 cap1005 r.b.abs ∧ Mem B [] w0 Z0 ((.row b1 [.bool r.a.neg, .slice ao1001 r.a.abs.length cap1002, .bool r.b.neg, .slice ao1004 r.b.abs.length cap1005] 41) :: Rr) Z' w' := by
 refine enter0 Try.func33 rfl rfl (by kernel_rfl) ?_; intro m d; have h := Fz.le.refl Z
 have f := hp (hs4.small); clear hp
 have i := f (hs7.small); clear f
 refine sqB d hM0 [] [] [] ?_; intro n g; clear d
 refine wp_seq ?_
 refine sqB g hM0 [0] [] [(9, .bool ((u0.b.abs.length : Int) == 0))] ?_; intro o c; clear g
 obtain ⟨j, k⟩ := i
 refine cn c j ?_
 refine wp_skip ?_
 refine thn ?_
 refine sqB c hM0 [] [] [(2, pt b1 2)] ?_; intro p l; clear c
 refine wp_ret ?_
 refine ra1 l (pt b1 2) ?_
 exact ⟨u0, ao2, cap3, ao5, cap6, Z, rfl, k, h, hs4, hs7, hM0.keep (List.Sublist.cons_cons _ (List.Sublist.refl _))⟩

theorem gnegA_walk (u0 : BRat) (b1 : Nat) (ao2 : Option Addr) (cap3 : Nat) (ao5 : Option Addr) (cap6 : Nat) (B : Nat) (w0 : World) (Z0 : Fz) (Rr : List Res) (Z : Fz) (w : World) (hs4 : SlR (tyInt .u32) Z ao2 cap3 u0.a.abs) (hs7 : SlR (tyInt .u32) Z ao5 cap6 u0.b.abs) (hM0 : Mem B [] w0 Z0 ((.row b1 [.bool u0.a.neg, .slice ao2 u0.a.abs.length cap3, .bool u0.b.neg, .slice ao5 u0.b.abs.length cap6] 41) :: Rr) Z w) (hZ : Z.on w) {K : BRat → Prop} (hp : gnegA_vc u0 K) : Calls Try.prog 68 #[pt b1 0, pt b1 0] w fun e w' => ∃ (r : BRat) (ao1001 : Option Addr) (cap1002 : Nat) (ao1004 : Option Addr) (cap1005 : Nat) (Z' : Fz), e = .returned (pt b1 0) ∧ K r ∧ Fz.le Z Z' ∧ SlR (tyInt .u32) Z' ao1001 cap1002 r.a.abs ∧ SlR (tyInt .u32) Z' ao1004 cap1005 r.b.abs ∧ Mem B [] w0 Z0 ((.row b1 [.bool r.a.neg, .slice ao1001 r.a.abs.length cap1002, .bool r.b.neg, .slice ao1004 r.b.abs.length cap1005] 41) :: Rr) Z' w' := by
 refine enter0 Try.func68 rfl rfl (by kernel_rfl) ?_; intro a0 n; have c := Fz.le.refl Z
 have o := hp (hs4.small); clear hp
 have M := o (hs7.small); clear o
 refine sqB n hM0 [] [] [] ?_; intro N p; clear n
 have q : Fr 17 [] [⟨0, [], pt b1 0⟩, ⟨1, [], pt b1 0⟩] N := p.reg; clear p
 refine wp_seq (rgS mixed hM0 [(0, true), (1, true), (2, true), (3, true), (4, true), (5, true), (6, true), (7, true), (8, true), (9, true), (10, false), (11, false), (12, false)] [11, 12] [0] [.row b1 (e41Nc u0 ao2 cap3 ao5 cap6) 41] ?_)
 intro O s ac i; clear hM0
 have d := Fz.le.refl Z
 refine cS q 10 [0, 0] [] [(5, pt b1 0), (10, .bool (!u0.a.neg)), (14, .slice ao2 u0.a.abs.length cap3)] ?_; intro ad t; clear q
 refine eS rfl ?_; intro P u
 obtain ⟨Q, R⟩ := M
 refine ck t 67 #[.slice ao2 u0.a.abs.length cap3] ?_
 refine (gtwin_fun u0.a.abs Q ao2 cap3 _ _ hs4 i.fz).mono ?_; rintro _ v ⟨j, k, S, rfl, hm⟩; refine ⟨_, rfl, ?_⟩; intro ae x; have y := i.callZ hm; have g := hm.ext.le; clear hm i t
 replace hs4 := hs4.mono g
 replace hs7 := hs7.mono g
 replace d := d.mono g
 replace c := Fz.le.trans c g
 have z : Mem B [] w0 Z0 ((.own (tyInt .u32) 112 j k (gtwinS u0.a.abs)) :: (.row b1 (e41Nc u0 ao2 cap3 ao5 cap6) 41) :: Rr) S v := y; clear y
 refine nl (qnI (u _ _ (z.cst d [1]) ?_)); clear u P
 refine eL rfl ?_; intro T A
 obtain ⟨U, h, C, l⟩ := z.freeze 0 rfl
 replace hs4 := hs4.mono h
 replace hs7 := hs7.mono h
 replace d := d.mono h
 replace c := Fz.le.trans c h
 have m : Mem B [] w0 Z0 ((.row b1 (e41Nc u0 ao2 cap3 ao5 cap6) 41) :: Rr) U v := C; clear C
 refine ck x 58 #[pt b1 0, .bool (!u0.a.neg), .slice j (gtwinS u0.a.abs).length k] ?_
 refine (ggiveA_fun u0 (!u0.a.neg) (gtwinS u0.a.abs) b1 ao2 cap3 ao5 cap6 j k _ _ _ _ _ _ hs4 hs7 l m m.fz).mono ?_; rintro _ V ⟨D, E, F, G, H, rfl, f, W, X, hm⟩; refine ⟨_, rfl, ?_⟩; intro af I; have J := hm; clear hm m x
 replace hs4 := hs4.mono f
 replace hs7 := hs7.mono f
 replace d := d.mono f
 replace l := l.mono f
 replace c := Fz.le.trans c f
 have Y : Mem B [] w0 Z0 ((.row b1 (e41Nc (ggiveA u0 (!u0.a.neg) (gtwinS u0.a.abs)) D E F G) 41) :: Rr) H V := J; clear J
 refine nl (qnI (A _ _ ?_)); clear A T
 refine eL rfl ?_; intro aa L
 refine s1 I 4 (pt b1 0) ?_; intro ag ab; clear I
 refine nl (qnI (L _ _ ?_)); clear L aa
 refine nS (s _ _ ?_); clear s O
 refine thn ?_
 refine wp_ret ?_
 refine ra1 ab (pt b1 0) ?_
 exact ⟨(ggiveA u0 (!u0.a.neg) (gtwinS u0.a.abs)), D, E, F, G, H, rfl, R, c, W, X, Y.keep (List.Sublist.cons_cons _ (List.Sublist.refl _))⟩

theorem gnegB_walk (u0 : BRat) (b1 : Nat) (ao2 : Option Addr) (cap3 : Nat) (ao5 : Option Addr) (cap6 : Nat) (B : Nat) (w0 : World) (Z0 : Fz) (Rr : List Res) (Z : Fz) (w : World) (hs4 : SlR (tyInt .u32) Z ao2 cap3 u0.a.abs) (hs7 : SlR (tyInt .u32) Z ao5 cap6 u0.b.abs) (hM0 : Mem B [] w0 Z0 ((.row b1 [.bool u0.a.neg, .slice ao2 u0.a.abs.length cap3, .bool u0.b.neg, .slice ao5 u0.b.abs.length cap6] 41) :: Rr) Z w) (hZ : Z.on w) {K : BRat → Prop} (hp : gnegB_vc u0 K) : Calls Try.prog 68 #[pt b1 2, pt b1 2] w fun e w' => ∃ (r : BRat) (ao1001 : Option Addr) (cap1002 : Nat) (ao1004 : Option Addr) (cap1005 : Nat) (Z' : Fz), e = .returned (pt b1 2) ∧ K r ∧ Fz.le Z Z' ∧ SlR (tyInt .u32) Z' ao1001 cap1002 r.a.abs ∧ SlR (tyInt .u32) Z' ao1004 cap1005 r.b.abs ∧ Mem B [] w0 Z0 ((.row b1 [.bool r.a.neg, .slice ao1001 r.a.abs.length cap1002, .bool r.b.neg, .slice ao1004 r.b.abs.length cap1005] 41) :: Rr) Z' w' := by
 refine enter0 Try.func68 rfl rfl (by kernel_rfl) ?_; intro a0 n; have c := Fz.le.refl Z
 have o := hp (hs4.small); clear hp
 have M := o (hs7.small); clear o
 refine sqB n hM0 [] [] [] ?_; intro N p; clear n
 have q : Fr 17 [] [⟨0, [], pt b1 2⟩, ⟨1, [], pt b1 2⟩] N := p.reg; clear p
 refine wp_seq (rgS mixed hM0 [(0, true), (1, true), (2, true), (3, true), (4, true), (5, true), (6, true), (7, true), (8, true), (9, true), (10, false), (11, false), (12, false)] [11, 12] [0] [.row b1 (e41Nc u0 ao2 cap3 ao5 cap6) 41] ?_)
 intro O s ac i; clear hM0
 have d := Fz.le.refl Z
 refine cS q 10 [0, 0] [] [(5, pt b1 2), (10, .bool (!u0.b.neg)), (14, .slice ao5 u0.b.abs.length cap6)] ?_; intro ad t; clear q
 refine eS rfl ?_; intro P u
 obtain ⟨Q, R⟩ := M
 refine ck t 67 #[.slice ao5 u0.b.abs.length cap6] ?_
 refine (gtwin_fun u0.b.abs Q ao5 cap6 _ _ hs7 i.fz).mono ?_; rintro _ v ⟨j, k, S, rfl, hm⟩; refine ⟨_, rfl, ?_⟩; intro ae x; have y := i.callZ hm; have g := hm.ext.le; clear hm i t
 replace hs4 := hs4.mono g
 replace hs7 := hs7.mono g
 replace d := d.mono g
 replace c := Fz.le.trans c g
 have z : Mem B [] w0 Z0 ((.own (tyInt .u32) 112 j k (gtwinS u0.b.abs)) :: (.row b1 (e41Nc u0 ao2 cap3 ao5 cap6) 41) :: Rr) S v := y; clear y
 refine nl (qnI (u _ _ (z.cst d [1]) ?_)); clear u P
 refine eL rfl ?_; intro T A
 obtain ⟨U, h, C, l⟩ := z.freeze 0 rfl
 replace hs4 := hs4.mono h
 replace hs7 := hs7.mono h
 replace d := d.mono h
 replace c := Fz.le.trans c h
 have m : Mem B [] w0 Z0 ((.row b1 (e41Nc u0 ao2 cap3 ao5 cap6) 41) :: Rr) U v := C; clear C
 refine ck x 58 #[pt b1 2, .bool (!u0.b.neg), .slice j (gtwinS u0.b.abs).length k] ?_
 refine (ggiveB_fun u0 (!u0.b.neg) (gtwinS u0.b.abs) b1 ao2 cap3 ao5 cap6 j k _ _ _ _ _ _ hs4 hs7 l m m.fz).mono ?_; rintro _ V ⟨D, E, F, G, H, rfl, f, W, X, hm⟩; refine ⟨_, rfl, ?_⟩; intro af I; have J := hm; clear hm m x
 replace hs4 := hs4.mono f
 replace hs7 := hs7.mono f
 replace d := d.mono f
 replace l := l.mono f
 replace c := Fz.le.trans c f
 have Y : Mem B [] w0 Z0 ((.row b1 (e41Nc (ggiveB u0 (!u0.b.neg) (gtwinS u0.b.abs)) D E F G) 41) :: Rr) H V := J; clear J
 refine nl (qnI (A _ _ ?_)); clear A T
 refine eL rfl ?_; intro aa L
 refine s1 I 4 (pt b1 2) ?_; intro ag ab; clear I
 refine nl (qnI (L _ _ ?_)); clear L aa
 refine nS (s _ _ ?_); clear s O
 refine thn ?_
 refine wp_ret ?_
 refine ra1 ab (pt b1 2) ?_
 exact ⟨(ggiveB u0 (!u0.b.neg) (gtwinS u0.b.abs)), D, E, F, G, H, rfl, R, c, W, X, Y.keep (List.Sublist.cons_cons _ (List.Sublist.refl _))⟩

end Go.Proofs.Ytdndfbamhnchfaa
set_option linter.unusedVariables false
set_option linter.unusedSimpArgs false
set_option maxRecDepth 100000
set_option maxHeartbeats 0
namespace Go.Proofs.Ytdndfbamhnchfaa
open Go.Sy Go.RowKit
abbrev e41Nd (X : BRat) (A0 : Option Addr) (C0 : Nat) (A1 : Option Addr) (C1 : Nat) : List Value := [.bool X.a.neg, .slice A0 X.a.abs.length C0, .bool X.b.neg, .slice A1 X.b.abs.length C1]
theorem gdiv_fun (u0 : List Int) (u1 : List Int) (hpre : u0 = ws (wv u0) ∧ u1 = ws (wv u1) ∧ wv u0 < 18446744073709551616 ∧ wv u1 < 18446744073709551616 ∧ 0 < wv u1) (ao1 : Option Addr) (cap2 : Nat) (ao4 : Option Addr) (cap5 : Nat) (Z : Fz) (w : World) (hs3 : SlR (tyInt .u32) Z ao1 cap2 u0) (hs6 : SlR (tyInt .u32) Z ao4 cap5 u1) (hZ : Z.on w) : Calls Try.prog 70 #[.slice ao1 u0.length cap2, .slice ao4 u1.length cap5] w fun e w' => ∃ (ao1001 : Option Addr) (cap1002 : Nat) (ao1004 : Option Addr) (cap1005 : Nat) (Z' : Fz), e = .returned (.tuple #[.slice ao1001 (gdivS u0 u1).1.length cap1002, .slice ao1004 (gdivS u0 u1).2.length cap1005]) ∧ SlR (tyInt .u32) Z' ao1001 cap1002 (gdivS u0 u1).1 ∧ SlR (tyInt .u32) Z' ao1004 cap1005 (gdivS u0 u1).2 ∧ Mem w.heap.size [] w Z [] Z' w' :=
  (gdiv_walk u0 u1 ao1 cap2 ao4 cap5 Z w hs3 hs6 hZ (gdiv_ok u0 u1 hpre)).mono fun _ _ ⟨r, h0, h1, h2, h3, h4, he, hk, f0, f1, hm⟩ => by subst hk; exact ⟨h0, h1, h2, h3, h4, he, f0, f1, hm⟩

theorem gcom_fun (u0 : List Int) (u1 : List Int) (hpre : u0 = ws (wv u0) ∧ u1 = ws (wv u1) ∧ wv u0 < 18446744073709551616 ∧ wv u1 < 18446744073709551616) (ao1 : Option Addr) (cap2 : Nat) (ao4 : Option Addr) (cap5 : Nat) (Z : Fz) (w : World) (hs3 : SlR (tyInt .u32) Z ao1 cap2 u0) (hs6 : SlR (tyInt .u32) Z ao4 cap5 u1) (hZ : Z.on w) : Calls Try.prog 69 #[.slice ao1 u0.length cap2, .slice ao4 u1.length cap5] w fun e w' => ∃ (ao1001 : Option Addr) (cap1002 : Nat) (Z' : Fz), e = .returned (.slice ao1001 (gcomS u0 u1).length cap1002) ∧ SlR (tyInt .u32) Z' ao1001 cap1002 (gcomS u0 u1) ∧ Mem w.heap.size [] w Z [] Z' w' :=
  (gcom_walk u0 u1 ao1 cap2 ao4 cap5 Z w hs3 hs6 hZ (gcom_ok u0 u1 hpre)).mono fun _ _ ⟨r, h0, h1, h2, he, hk, f0, hm⟩ => by subst hk; exact ⟨h0, h1, h2, he, f0, hm⟩

theorem gnew_fun (u0 : Int) (hpre : -9223372036854775808 ≤ u0 ∧ u0 ≤ 9223372036854775807)  (Z : Fz) (w : World)  (hZ : Z.on w) : Calls Try.prog 32 #[i6 u0] w fun e w' => ∃ (b1001 : Nat) (ao1002 : Option Addr) (cap1003 : Nat) (Z' : Fz), e = .returned (pt b1001 0) ∧ SlR (tyInt .u32) Z' ao1002 cap1003 (bz u0).abs ∧ Mem w.heap.size [] w Z [.row b1001 [.bool (bz u0).neg, .slice ao1002 (bz u0).abs.length cap1003] 39] Z' w' :=
  (gnew_walk u0  Z w  hZ (gnew_ok u0 hpre)).mono fun _ _ ⟨r, h0, h1, h2, h3, he, hk, f0, hm⟩ => by subst hk; exact ⟨h0, h1, h2, h3, he, f0, hm⟩

theorem rden_fun (u0 : BRat) (hpre : u0.b.abs ≠ []) (b1 : Nat) (ao2 : Option Addr) (cap3 : Nat) (ao5 : Option Addr) (cap6 : Nat) (B : Nat) (w0 : World) (Z0 : Fz) (Rr : List Res) (Z : Fz) (w : World) (hs4 : SlR (tyInt .u32) Z ao2 cap3 u0.a.abs) (hs7 : SlR (tyInt .u32) Z ao5 cap6 u0.b.abs) (hM0 : Mem B [] w0 Z0 ((.row b1 [.bool u0.a.neg, .slice ao2 u0.a.abs.length cap3, .bool u0.b.neg, .slice ao5 u0.b.abs.length cap6] 41) :: Rr) Z w) (hZ : Z.on w) : Calls Try.prog 33 #[pt b1 0] w fun e w' => ∃ (ao1001 : Option Addr) (cap1002 : Nat) (ao1004 : Option Addr) (cap1005 : Nat) (Z' : Fz), e = .returned (pt b1 2) ∧ Fz.le Z Z' ∧ SlR (tyInt .u32) Z' ao1001 cap1002 (rdenS u0).a.abs ∧ SlR (tyInt .u32) Z' ao1004 cap1005 (rdenS u0).b.abs ∧ Mem B [] w0 Z0 ((.row b1 [.bool (rdenS u0).a.neg, .slice ao1001 (rdenS u0).a.abs.length cap1002, .bool (rdenS u0).b.neg, .slice ao1004 (rdenS u0).b.abs.length cap1005] 41) :: Rr) Z' w' :=
  (rden_walk u0 b1 ao2 cap3 ao5 cap6 B w0 Z0 Rr Z w hs4 hs7 hM0 hZ (rden_ok u0 hpre)).mono fun _ _ ⟨r, h0, h1, h2, h3, h4, he, hk, f0, f1, f2, hm⟩ => by subst hk; exact ⟨h0, h1, h2, h3, h4, he, f0, f1, f2, hm⟩

theorem gnegA_fun (u0 : BRat) (hpre : u0.a.abs.length ≤ 1000000) (b1 : Nat) (ao2 : Option Addr) (cap3 : Nat) (ao5 : Option Addr) (cap6 : Nat) (B : Nat) (w0 : World) (Z0 : Fz) (Rr : List Res) (Z : Fz) (w : World) (hs4 : SlR (tyInt .u32) Z ao2 cap3 u0.a.abs) (hs7 : SlR (tyInt .u32) Z ao5 cap6 u0.b.abs) (hM0 : Mem B [] w0 Z0 ((.row b1 [.bool u0.a.neg, .slice ao2 u0.a.abs.length cap3, .bool u0.b.neg, .slice ao5 u0.b.abs.length cap6] 41) :: Rr) Z w) (hZ : Z.on w) : Calls Try.prog 68 #[pt b1 0, pt b1 0] w fun e w' => ∃ (ao1001 : Option Addr) (cap1002 : Nat) (ao1004 : Option Addr) (cap1005 : Nat) (Z' : Fz), e = .returned (pt b1 0) ∧ Fz.le Z Z' ∧ SlR (tyInt .u32) Z' ao1001 cap1002 (gnegAS u0).a.abs ∧ SlR (tyInt .u32) Z' ao1004 cap1005 (gnegAS u0).b.abs ∧ Mem B [] w0 Z0 ((.row b1 [.bool (gnegAS u0).a.neg, .slice ao1001 (gnegAS u0).a.abs.length cap1002, .bool (gnegAS u0).b.neg, .slice ao1004 (gnegAS u0).b.abs.length cap1005] 41) :: Rr) Z' w' :=
  (gnegA_walk u0 b1 ao2 cap3 ao5 cap6 B w0 Z0 Rr Z w hs4 hs7 hM0 hZ (gnegA_ok u0 hpre)).mono fun _ _ ⟨r, h0, h1, h2, h3, h4, he, hk, f0, f1, f2, hm⟩ => by subst hk; exact ⟨h0, h1, h2, h3, h4, he, f0, f1, f2, hm⟩

theorem gnegB_fun (u0 : BRat) (hpre : u0.b.abs.length ≤ 1000000) (b1 : Nat) (ao2 : Option Addr) (cap3 : Nat) (ao5 : Option Addr) (cap6 : Nat) (B : Nat) (w0 : World) (Z0 : Fz) (Rr : List Res) (Z : Fz) (w : World) (hs4 : SlR (tyInt .u32) Z ao2 cap3 u0.a.abs) (hs7 : SlR (tyInt .u32) Z ao5 cap6 u0.b.abs) (hM0 : Mem B [] w0 Z0 ((.row b1 [.bool u0.a.neg, .slice ao2 u0.a.abs.length cap3, .bool u0.b.neg, .slice ao5 u0.b.abs.length cap6] 41) :: Rr) Z w) (hZ : Z.on w) : Calls Try.prog 68 #[pt b1 2, pt b1 2] w fun e w' => ∃ (ao1001 : Option Addr) (cap1002 : Nat) (ao1004 : Option Addr) (cap1005 : Nat) (Z' : Fz), e = .returned (pt b1 2) ∧ Fz.le Z Z' ∧ SlR (tyInt .u32) Z' ao1001 cap1002 (gnegBS u0).a.abs ∧ SlR (tyInt .u32) Z' ao1004 cap1005 (gnegBS u0).b.abs ∧ Mem B [] w0 Z0 ((.row b1 [.bool (gnegBS u0).a.neg, .slice ao1001 (gnegBS u0).a.abs.length cap1002, .bool (gnegBS u0).b.neg, .slice ao1004 (gnegBS u0).b.abs.length cap1005] 41) :: Rr) Z' w' :=
  (gnegB_walk u0 b1 ao2 cap3 ao5 cap6 B w0 Z0 Rr Z w hs4 hs7 hM0 hZ (gnegB_ok u0 hpre)).mono fun _ _ ⟨r, h0, h1, h2, h3, h4, he, hk, f0, f1, f2, hm⟩ => by subst hk; exact ⟨h0, h1, h2, h3, h4, he, f0, f1, f2, hm⟩

theorem rnorm_walk (u0 : BRat) (b1 : Nat) (ao2 : Option Addr) (cap3 : Nat) (ao5 : Option Addr) (cap6 : Nat) (B : Nat) (w0 : World) (Z0 : Fz) (Rr : List Res) (Z : Fz) (w : World) (hs4 : SlR (tyInt .u32) Z ao2 cap3 u0.a.abs) (hs7 : SlR (tyInt .u32) Z ao5 cap6 u0.b.abs) (hM0 : Mem B [] w0 Z0 ((.row b1 [.bool u0.a.neg, .slice ao2 u0.a.abs.length cap3, .bool u0.b.neg, .slice ao5 u0.b.abs.length cap6] 41) :: Rr) Z w) (hZ : Z.on w) {K : BRat → Prop} (hp : rnorm_vc u0 K) : Calls Try.prog 55 #[pt b1 0] w fun e w' => ∃ (r : BRat) (ao1001 : Option Addr) (cap1002 : Nat) (ao1004 : Option Addr) (cap1005 : Nat) (Z' : Fz), e = .returned (pt b1 0) ∧ K r ∧ Fz.le Z Z' ∧ SlR (tyInt .u32) Z' ao1001 cap1002 r.a.abs ∧ SlR (tyInt .u32) Z' ao1004 cap1005 r.b.abs ∧ Mem B [] w0 Z0 ((.row b1 [.bool r.a.neg, .slice ao1001 r.a.abs.length cap1002, .bool r.b.neg, .slice ao1004 r.b.abs.length cap1005] 41) :: Rr) Z' w' := by
 refine enter0 Try.func55 rfl rfl (by kernel_rfl) ?_; intro a0 dZ; have f := Fz.le.refl Z
 have d0 := hp (hs4.small); clear hp
 have iR := d0 (hs7.small); clear d0
 refine sqB dZ hM0 [] [] [] ?_; intro mA d1; clear dZ
 refine wp_seq ?_
 refine sqB d1 hM0 [0] [] [(14, .bool ((u0.b.abs.length : Int) == 0))] ?_; intro mB cG; clear d1
 obtain ⟨iS, bv⟩ := iR
 refine cn cG iS ?_
 refine wp_skip ?_
 refine thn ?_
 refine wp_seq ?_
 refine sqB cG hM0 [0] [] [(23, .bool u0.b.neg)] ?_; intro iT aD; clear cG
 refine cd aD (t := u0.b.neg) (by kernel_rfl) (fun cH => ?_) (fun cH => ?_)
 ·
  have iU := bv.1 cH; clear bv
  have d2 : Fr 120 [] [⟨0, [], pt b1 0⟩] iT := aD.reg; clear aD
  refine wp_seq (rgS mixed hM0 [(0, true), (1, true), (2, true), (3, true), (4, true), (5, true), (6, false)] [6] [] [] ?_)
  intro iV d3 mC cI; clear hM0
  have d4 := Fz.le.refl Z
  refine cS d2 6 [] [] [(26, pt b1 0), (29, pt b1 0)] ?_; intro mD d5; clear d2
  refine eL rfl ?_; intro iW d6
  obtain ⟨iX, iY⟩ := iU
  refine ck d5 68 #[pt b1 0, pt b1 0] ?_
  refine (gnegA_fun u0 iX b1 ao2 cap3 ao5 cap6 _ _ _ _ _ _ hs4 hs7 cI cI.fz).mono ?_; rintro _ iZ ⟨d7, d8, d9, ea, eb, rfl, bw, o, p, hm⟩; refine ⟨_, rfl, ?_⟩; intro i0 ec; have ed := hm; clear hm cI d5
  replace hs4 := hs4.mono bw
  replace hs7 := hs7.mono bw
  replace d4 := d4.mono bw
  replace f := Fz.le.trans f bw
  have ee : Mem B [] w0 Z0 ((.row b1 (e41Nd (gnegAS u0) d7 d8 d9 ea) 41) :: Rr) eb iZ := ed; clear ed
  refine nl (qnI (d6 _ _ ?_)); clear d6 iW
  refine nS (d3 _ _ ?_); clear d3 iV
  refine thn ?_
  have ef : Fr 120 [] [⟨0, [], pt b1 0⟩] i0 := ec.reg; clear ec
  refine rgS mixed ee [(0, true), (1, true), (2, true), (3, true), (4, true), (5, true), (6, false)] [6] [] [] ?_
  intro i1 eg mE cJ; clear ee
  have eh := Fz.le.refl eb
  refine cS ef 6 [] [] [(33, pt b1 2), (36, pt b1 2)] ?_; intro mF ei; clear ef
  refine eL rfl ?_; intro i2 ej
  obtain ⟨i3, bx⟩ := iY
  refine ck ei 68 #[pt b1 2, pt b1 2] ?_
  refine (gnegB_fun (gnegAS u0) i3 b1 d7 d8 d9 ea _ _ _ _ _ _ o p cJ cJ.fz).mono ?_; rintro _ i4 ⟨j, l, h, i, bz, rfl, aA, n, m, hm⟩; refine ⟨_, rfl, ?_⟩; intro mG ek; have el := hm; clear hm cJ ei
  replace hs4 := hs4.mono aA
  replace hs7 := hs7.mono aA
  replace o := o.mono aA
  replace p := p.mono aA
  replace eh := eh.mono aA
  replace f := Fz.le.trans f aA
  have q : Mem B [] w0 Z0 ((.row b1 (e41Nd (gnegBS (gnegAS u0)) j l h i) 41) :: Rr) bz i4 := el; clear el
  refine nl (qnI (ej _ _ ?_)); clear ej i2
  refine nS (eg _ _ ?_); clear eg i1
  refine thn ?_
  refine wp_seq ?_
  refine sqB ek q [0] [] [(44, .bool (((gnegBS (gnegAS u0)).a.abs.length : Int) == 0))] ?_; intro mH aE; clear ek
  refine cd aE (t := ((gnegBS (gnegAS u0)).a.abs.length : Int) == 0) (by kernel_rfl) (fun cK => ?_) (fun cK => ?_)
  ·
   have i5 := bx.1 cK; clear bx
   refine sqH ?_; intro i7 em
   refine bt aE q 3 [] [] [(47, pt b1 2)] ?_; intro mI en; clear aE
   refine ck en 56 #[pt b1 2, i6 1] ?_
   refine enter0 Try.func56 rfl rfl (by kernel_rfl) ?_; intro i8 eo
   have ep : Fr 18 [] [⟨0, [], pt b1 2⟩, ⟨1, [], i6 1⟩] i8 := eo.reg; clear eo
   refine sqB ep q [] [] [] ?_; intro mJ eq; clear ep
   refine sqB eq q [] [] [(5, y6 1)] ?_; intro mK er; clear eq
   refine wp_seq ?_
   refine sqB er q [] [] [(9, .bool false)] ?_; intro mL cL; clear er
   refine cdF cL (by kernel_rfl) ?_
   refine wp_skip ?_
   refine thn ?_
   refine sqH ?_; intro i9 es
   refine bt cL q 4 [] [] [(12, pt b1 2), (14, .bool false), (15, y6 1)] ?_; intro mM et; clear cL
   obtain ⟨ja, eu⟩ := i5
   refine ck et 71 #[y6 1] ?_
   refine (gwords_fun 1 ja _ _ q.fz).mono ?_; rintro _ jb ⟨ev, ew, jc, rfl, bA, hm⟩; refine ⟨_, rfl, ?_⟩; intro mN ex; have ey := q.callZ hm; have af := hm.ext.le; clear hm q et
   replace hs4 := hs4.mono af
   replace hs7 := hs7.mono af
   replace o := o.mono af
   replace p := p.mono af
   replace n := n.mono af
   replace m := m.mono af
   replace f := Fz.le.trans f af
   have cM : Mem B [] w0 Z0 ((.row b1 (e41Nd (gnegBS (gnegAS u0)) j l h i) 41) :: Rr) jc jb := ey; clear ey
   have ez := eu (bA.small); clear eu
   refine ck ex 58 #[pt b1 2, .bool false, .slice ev (gwordsS 1).length ew] ?_
   obtain ⟨V, jd, eA⟩ := hxq ez; clear ez
   have h9 := ggiveB_fun (gnegBS (gnegAS u0)) false (gwordsS 1) b1 j l h i ev ew _ _ _ _ _ _ n m bA cM cM.fz; rw [jd] at h9; refine h9.mono ?_; clear h9; rintro _ eB ⟨cN, cO, cP, cQ, cR, rfl, ab, eC, eD, hm⟩; refine ⟨_, rfl, ?_⟩; intro mO eE; have eF := hm; clear hm cM ex
   replace hs4 := hs4.mono ab
   replace hs7 := hs7.mono ab
   replace o := o.mono ab
   replace p := p.mono ab
   replace n := n.mono ab
   replace m := m.mono ab
   replace bA := bA.mono ab
   replace f := Fz.le.trans f ab
   have eG : Mem B [] w0 Z0 ((.row b1 (e41Nd V cN cO cP cQ) 41) :: Rr) cR eB := eF; clear eF
   have eH := eA (eC.small); clear eA
   have je := eH (eD.small); clear eH
   refine s1 eE 4 (pt b1 2) ?_; intro mP eI; clear eE
   refine nlH (es _ _ ?_); clear es i9
   refine wp_ret ?_
   refine ra1 eI (pt b1 2) ?_
   refine ⟨_, rfl, ?_⟩; intro mQ eJ; clear en eI
   have eK : Mem B [] w0 Z0 ((.row b1 (e41Nd V cN cO cP cQ) 41) :: Rr) cR eB := eG; clear eG
   refine nlH (em _ _ ?_); clear em i7
   refine sqB eJ eK [] [] [(2, pt b1 0)] ?_; intro mR jf; clear eJ
   refine wp_ret ?_
   refine thr ?_
   refine ra1 jf (pt b1 0) ?_
   exact ⟨V, cN, cO, cP, cQ, cR, rfl, je, f, eC, eD, eK.keep (List.Sublist.cons_cons _ (List.Sublist.refl _))⟩
  have bB := bx.2 cK; clear bx
  refine wp_skip ?_
  refine thn ?_
  refine wp_seq ?_
  refine sqH ?_; intro eM bC
  refine bt aE q 8 [0] [] [(57, .bool (((gnegBS (gnegAS u0)).b.abs.length : Int) == 1))] ?_; intro mS bD; clear aE
  rcases Bool.eq_false_or_eq_true (((gnegBS (gnegAS u0)).b.abs.length : Int) == 1) with aF | aF
  ·
   have jg := bB.1 aF; clear bB
   have eN := bD.reval (d := 57) (c := []) (v := .bool (((gnegBS (gnegAS u0)).b.abs.length : Int) == 1)) (by kernel_rfl) (.bool true) (by rw [aF]); clear bD
   refine bt eN q 5 [0] [58, 59, 60, 61, 62] [(62, .slice h (gnegBS (gnegAS u0)).b.abs.length i)] ?_; intro mT cT; clear eN
   obtain ⟨jh, eO⟩ := jg
   refine ix cT (T := (tyInt .u32)) (xs := (gnegBS (gnegAS u0)).b.abs) m (0 : Int) jh (k := .i64) (e := 112) (bytes := 4) (by rw [wanted_of cT (b := true) rfl rfl (by kernel_rfl) (by kernel_rfl)]; rfl) rfl (by kernel_rfl) rfl (by kernel_rfl) (by kernel_rfl) (by kernel_rfl) ?_; intro mU mV ji aG mW jj O jk bE; clear cT
   have bF := eO aG jj; clear eO
   obtain rfl : ji = ([.int .u32 aG] : List Value) := jk
   refine st bE (.int .u32 aG) (by rw [wanted_of bE (b := true) rfl rfl (by kernel_rfl) (by kernel_rfl)]; rfl) rfl (by kernel_rfl) (lz bE q.fz O 0 (g := []) rfl (by kernel_rfl) (by kernel_rfl) (by kernel_rfl) rfl) ?_; intro mX eP; clear bE
   refine bt eP q 2 [] [65, 66] [(66, .bool (aG == 1))] ?_; intro jl aH; clear eP
   refine nlH (bC _ _ ?_); clear bC eM
   refine cd aH (t := aG == 1) (by kernel_rfl) (fun cU => ?_) (fun cU => ?_)
   ·
    have jm := bF.1 cU; clear bF
    refine sqB aH q [] [] [(2, pt b1 0)] ?_; intro mY jn; clear aH
    refine wp_ret ?_
    refine thr ?_
    refine ra1 jn (pt b1 0) ?_
    exact ⟨(gnegBS (gnegAS u0)), j, l, h, i, bz, rfl, jm, f, n, m, q.keep (List.Sublist.cons_cons _ (List.Sublist.refl _))⟩
   have jo := bF.2 cU; clear bF
   refine wp_skip ?_
   refine thn ?_
   have eQ : Fr 120 [] [⟨0, [], pt b1 0⟩] jl := aH.reg; clear aH
   refine wp_seq (rgS mixed q [(0, true), (1, true), (2, true), (3, true), (4, true), (5, true), (6, true), (7, true), (8, true), (9, true), (10, false), (11, true)] [] [0] [.row b1 (e41Nd (gnegBS (gnegAS u0)) j l h i) 41] ?_)
   intro jp eR mZ cV; clear q
   have cW := Fz.le.refl bz
   refine cS eQ 10 [0, 0] [] [(72, .slice j (gnegBS (gnegAS u0)).a.abs.length l), (77, .slice h (gnegBS (gnegAS u0)).b.abs.length i)] ?_; intro m0 eT; clear eQ
   refine eS rfl ?_; intro jq eU
   obtain ⟨jr, bG⟩ := jo
   refine ck eT 69 #[.slice j (gnegBS (gnegAS u0)).a.abs.length l, .slice h (gnegBS (gnegAS u0)).b.abs.length i] ?_
   refine (gcom_fun (gnegBS (gnegAS u0)).a.abs (gnegBS (gnegAS u0)).b.abs jr j l h i _ _ n m cV.fz).mono ?_; rintro _ js ⟨z, A, eV, rfl, I, hm⟩; refine ⟨_, rfl, ?_⟩; intro m1 eW; have eX := cV.callZ hm; have W := hm.ext.le; clear hm cV eT
   replace hs4 := hs4.mono W
   replace hs7 := hs7.mono W
   replace o := o.mono W
   replace p := p.mono W
   replace n := n.mono W
   replace m := m.mono W
   replace O := O.mono W
   replace cW := cW.mono W
   replace f := Fz.le.trans f W
   have s : Mem B [] w0 Z0 ((.row b1 (e41Nd (gnegBS (gnegAS u0)) j l h i) 41) :: Rr) eV js := eX; clear eX
   refine nl (qnI (eU _ _ (s.cst cW [0]) ?_)); clear eU jq
   refine cS eW 1 [] [] [(3, .slice z (gcomS (gnegBS (gnegAS u0)).a.abs (gnegBS (gnegAS u0)).b.abs).length A)] ?_; intro m2 eY; clear eW
   refine nS (eR _ _ ?_); clear eR jp
   refine thn ?_
   refine wp_seq ?_
   refine sqH ?_; intro eZ bH
   refine bt eY s 4 [] [] [(82, .bool (((gcomS (gnegBS (gnegAS u0)).a.abs (gnegBS (gnegAS u0)).b.abs).length : Int) == 1))] ?_; intro m3 bI; clear eY
   rcases Bool.eq_false_or_eq_true (((gcomS (gnegBS (gnegAS u0)).a.abs (gnegBS (gnegAS u0)).b.abs).length : Int) == 1) with aI | aI
   ·
    have jt := bG.1 aI; clear bG
    have bJ := bI.reval (d := 82) (c := []) (v := .bool (((gcomS (gnegBS (gnegAS u0)).a.abs (gnegBS (gnegAS u0)).b.abs).length : Int) == 1)) (by kernel_rfl) (.bool true) (by rw [aI]); clear bI
    refine st bJ (.slice z (gcomS (gnegBS (gnegAS u0)).a.abs (gnegBS (gnegAS u0)).b.abs).length A) (by rw [wanted_of bJ (b := true) rfl rfl (by kernel_rfl) (by kernel_rfl)]; rfl) rfl (by kernel_rfl) (p0 bJ (by kernel_rfl)) ?_; intro m4 cX; clear bJ
    obtain ⟨ju, e0⟩ := jt
    refine ix cX (T := (tyInt .u32)) (xs := (gcomS (gnegBS (gnegAS u0)).a.abs (gnegBS (gnegAS u0)).b.abs)) I (0 : Int) ju (k := .i64) (e := 112) (bytes := 4) (by rw [wanted_of cX (b := true) rfl rfl (by kernel_rfl) (by kernel_rfl)]; rfl) rfl (by kernel_rfl) rfl (by kernel_rfl) (by kernel_rfl) (by kernel_rfl) ?_; intro m5 m6 jv aJ m7 jw aK jx bK; clear cX
    have bL := e0 aJ jw; clear e0
    obtain rfl : jv = ([.int .u32 aJ] : List Value) := jx
    refine st bK (.int .u32 aJ) (by rw [wanted_of bK (b := true) rfl rfl (by kernel_rfl) (by kernel_rfl)]; rfl) rfl (by kernel_rfl) (lz bK s.fz aK 0 (g := []) rfl (by kernel_rfl) (by kernel_rfl) (by kernel_rfl) rfl) ?_; intro m8 e1; clear bK
    refine bt e1 s 2 [] [86, 87] [(87, .bool (aJ == 1))] ?_; intro m9 aL; clear e1
    refine nlH (bH _ _ ?_); clear bH eZ
    refine cd aL (t := aJ == 1) (by kernel_rfl) (fun cY => ?_) (fun cY => ?_)
    ·
     have jy := bL.1 cY; clear bL
     refine sqB aL s [] [] [(2, pt b1 0)] ?_; intro na jz; clear aL
     refine wp_ret ?_
     refine thr ?_
     refine ra1 jz (pt b1 0) ?_
     exact ⟨(gnegBS (gnegAS u0)), j, l, h, i, eV, rfl, jy, f, n, m, s.keep (List.Sublist.cons_cons _ (List.Sublist.refl _))⟩
    have jA := bL.2 cY; clear bL
    refine wp_skip ?_
    refine thn ?_
    refine sqH ?_; intro jB e2
    refine bt aL s 6 [0] [] [(94, .slice j (gnegBS (gnegAS u0)).a.abs.length l), (95, .slice z (gcomS (gnegBS (gnegAS u0)).a.abs (gnegBS (gnegAS u0)).b.abs).length A)] ?_; intro nb e3; clear aL
    obtain ⟨jC, e4⟩ := jA
    refine ck e3 70 #[.slice j (gnegBS (gnegAS u0)).a.abs.length l, .slice z (gcomS (gnegBS (gnegAS u0)).a.abs (gnegBS (gnegAS u0)).b.abs).length A] ?_
    refine (gdiv_fun (gnegBS (gnegAS u0)).a.abs (gcomS (gnegBS (gnegAS u0)).a.abs (gnegBS (gnegAS u0)).b.abs) jC j l z A _ _ n I s.fz).mono ?_; rintro _ jD ⟨ag, ah, nc, nd, jE, rfl, bM, cZ, hm⟩; refine ⟨_, rfl, ?_⟩; intro ne e5; have e6 := s.callZ hm; have S := hm.ext.le; clear hm s e3
    replace hs4 := hs4.mono S
    replace hs7 := hs7.mono S
    replace o := o.mono S
    replace p := p.mono S
    replace n := n.mono S
    replace m := m.mono S
    replace O := O.mono S
    replace I := I.mono S
    replace aK := aK.mono S
    replace f := Fz.le.trans f S
    have aM : Mem B [] w0 Z0 ((.row b1 (e41Nd (gnegBS (gnegAS u0)) j l h i) 41) :: Rr) jE jD := e6; clear e6
    have e7 := e4 (bM.small); clear e4
    have jF := e7 (cZ.small); clear e7
    refine bt e5 aM 5 [] [] [(4, .slice ag (gdivS (gnegBS (gnegAS u0)).a.abs (gcomS (gnegBS (gnegAS u0)).a.abs (gnegBS (gnegAS u0)).b.abs)).1.length ah)] ?_; intro nf e8; clear e5
    refine nlH (e2 _ _ ?_); clear e2 jB
    refine sqH ?_; intro jG e9
    refine bt e8 aM 6 [0] [] [(104, .slice h (gnegBS (gnegAS u0)).b.abs.length i), (105, .slice z (gcomS (gnegBS (gnegAS u0)).a.abs (gnegBS (gnegAS u0)).b.abs).length A)] ?_; intro ng fa; clear e8
    obtain ⟨jH, fb⟩ := jF
    refine ck fa 70 #[.slice h (gnegBS (gnegAS u0)).b.abs.length i, .slice z (gcomS (gnegBS (gnegAS u0)).a.abs (gnegBS (gnegAS u0)).b.abs).length A] ?_
    refine (gdiv_fun (gnegBS (gnegAS u0)).b.abs (gcomS (gnegBS (gnegAS u0)).a.abs (gnegBS (gnegAS u0)).b.abs) jH h i z A _ _ m I aM.fz).mono ?_; rintro _ jI ⟨aN, aO, nh, ni, bN, rfl, fc, jJ, hm⟩; refine ⟨_, rfl, ?_⟩; intro nj fd; have fe := aM.callZ hm; have N := hm.ext.le; clear hm aM fa
    replace hs4 := hs4.mono N
    replace hs7 := hs7.mono N
    replace o := o.mono N
    replace p := p.mono N
    replace n := n.mono N
    replace m := m.mono N
    replace O := O.mono N
    replace I := I.mono N
    replace aK := aK.mono N
    replace bM := bM.mono N
    replace cZ := cZ.mono N
    replace f := Fz.le.trans f N
    have bO : Mem B [] w0 Z0 ((.row b1 (e41Nd (gnegBS (gnegAS u0)) j l h i) 41) :: Rr) bN jI := fe; clear fe
    have ff := fb (fc.small); clear fb
    have jK := ff (jJ.small); clear ff
    refine bt fd bO 5 [] [] [(6, .slice aN (gdivS (gnegBS (gnegAS u0)).b.abs (gcomS (gnegBS (gnegAS u0)).a.abs (gnegBS (gnegAS u0)).b.abs)).1.length aO)] ?_; intro nk fg; clear fd
    refine nlH (e9 _ _ ?_); clear e9 jG
    refine sqH ?_; intro jL fh
    refine bt fg bO 5 [] [] [(110, .slice ag (gdivS (gnegBS (gnegAS u0)).a.abs (gcomS (gnegBS (gnegAS u0)).a.abs (gnegBS (gnegAS u0)).b.abs)).1.length ah), (113, pt b1 1)] ?_; intro nm c0; clear fg
    refine sx c0 bO 0 [.bool (gnegBS (gnegAS u0)).a.neg, .slice ag (gdivS (gnegBS (gnegAS u0)).a.abs (gcomS (gnegBS (gnegAS u0)).a.abs (gnegBS (gnegAS u0)).b.abs)).1.length ah, .bool (gnegBS (gnegAS u0)).b.neg, .slice h (gnegBS (gnegAS u0)).b.abs.length i] 1 ?_; intro jM fi; clear bO
    have c1 : Mem B [] w0 Z0 ((.row b1 [.bool (gnegBS (gnegAS u0)).a.neg, .slice ag (gdivS (gnegBS (gnegAS u0)).a.abs (gcomS (gnegBS (gnegAS u0)).a.abs (gnegBS (gnegAS u0)).b.abs)).1.length ah, .bool (gnegBS (gnegAS u0)).b.neg, .slice h (gnegBS (gnegAS u0)).b.abs.length i] 41) :: Rr) bN jM := fi; clear fi
    refine nlH (fh _ _ ?_); clear fh jL
    refine sqH ?_; intro jN fj
    refine bt c0 c1 5 [] [] [(115, .slice aN (gdivS (gnegBS (gnegAS u0)).b.abs (gcomS (gnegBS (gnegAS u0)).a.abs (gnegBS (gnegAS u0)).b.abs)).1.length aO), (118, pt b1 3)] ?_; intro nn c2; clear c0
    refine sx c2 c1 0 [.bool (gnegBS (gnegAS u0)).a.neg, .slice ag (gdivS (gnegBS (gnegAS u0)).a.abs (gcomS (gnegBS (gnegAS u0)).a.abs (gnegBS (gnegAS u0)).b.abs)).1.length ah, .bool (gnegBS (gnegAS u0)).b.neg, .slice aN (gdivS (gnegBS (gnegAS u0)).b.abs (gcomS (gnegBS (gnegAS u0)).a.abs (gnegBS (gnegAS u0)).b.abs)).1.length aO] 3 ?_; intro jO fk; clear c1
    have fl : Mem B [] w0 Z0 ((.row b1 [.bool (gnegBS (gnegAS u0)).a.neg, .slice ag (gdivS (gnegBS (gnegAS u0)).a.abs (gcomS (gnegBS (gnegAS u0)).a.abs (gnegBS (gnegAS u0)).b.abs)).1.length ah, .bool (gnegBS (gnegAS u0)).b.neg, .slice aN (gdivS (gnegBS (gnegAS u0)).b.abs (gcomS (gnegBS (gnegAS u0)).a.abs (gnegBS (gnegAS u0)).b.abs)).1.length aO] 41) :: Rr) bN jO := fk; clear fk
    refine nlH (fj _ _ ?_); clear fj jN
    refine sqB c2 fl [] [] [(2, pt b1 0)] ?_; intro no jP; clear c2
    refine wp_ret ?_
    refine ra1 jP (pt b1 0) ?_
    exact ⟨(⟨(⟨(gnegBS (gnegAS u0)).a.neg, (gdivS (gnegBS (gnegAS u0)).a.abs (gcomS (gnegBS (gnegAS u0)).a.abs (gnegBS (gnegAS u0)).b.abs)).1⟩ : BInt), (⟨(gnegBS (gnegAS u0)).b.neg, (gdivS (gnegBS (gnegAS u0)).b.abs (gcomS (gnegBS (gnegAS u0)).a.abs (gnegBS (gnegAS u0)).b.abs)).1⟩ : BInt)⟩ : BRat), ag, ah, aN, aO, bN, rfl, jK, f, bM, fc, fl.keep (List.Sublist.cons_cons _ (List.Sublist.refl _))⟩
   have jQ := bG.2 aI; clear bG
   have fm := bI.reval (d := 82) (c := []) (v := .bool (((gcomS (gnegBS (gnegAS u0)).a.abs (gnegBS (gnegAS u0)).b.abs).length : Int) == 1)) (by kernel_rfl) (.bool false) (by rw [aI]); clear bI
   refine bt fm s 5 [] [83, 84, 85, 86, 87] [(87, .bool false)] ?_; intro np c3; clear fm
   refine nlH (bH _ _ ?_); clear bH eZ
   refine cdF c3 (by kernel_rfl) ?_
   refine wp_skip ?_
   refine thn ?_
   refine sqH ?_; intro jR fn
   refine bt c3 s 6 [0] [] [(94, .slice j (gnegBS (gnegAS u0)).a.abs.length l), (95, .slice z (gcomS (gnegBS (gnegAS u0)).a.abs (gnegBS (gnegAS u0)).b.abs).length A)] ?_; intro nq fo; clear c3
   obtain ⟨jS, fp⟩ := jQ
   refine ck fo 70 #[.slice j (gnegBS (gnegAS u0)).a.abs.length l, .slice z (gcomS (gnegBS (gnegAS u0)).a.abs (gnegBS (gnegAS u0)).b.abs).length A] ?_
   refine (gdiv_fun (gnegBS (gnegAS u0)).a.abs (gcomS (gnegBS (gnegAS u0)).a.abs (gnegBS (gnegAS u0)).b.abs) jS j l z A _ _ n I s.fz).mono ?_; rintro _ jT ⟨ai, aj, nr, ns, jU, rfl, bP, c4, hm⟩; refine ⟨_, rfl, ?_⟩; intro nt fq; have fr := s.callZ hm; have X := hm.ext.le; clear hm s fo
   replace hs4 := hs4.mono X
   replace hs7 := hs7.mono X
   replace o := o.mono X
   replace p := p.mono X
   replace n := n.mono X
   replace m := m.mono X
   replace O := O.mono X
   replace I := I.mono X
   replace f := Fz.le.trans f X
   have aP : Mem B [] w0 Z0 ((.row b1 (e41Nd (gnegBS (gnegAS u0)) j l h i) 41) :: Rr) jU jT := fr; clear fr
   have fs := fp (bP.small); clear fp
   have jV := fs (c4.small); clear fs
   refine bt fq aP 5 [] [] [(4, .slice ai (gdivS (gnegBS (gnegAS u0)).a.abs (gcomS (gnegBS (gnegAS u0)).a.abs (gnegBS (gnegAS u0)).b.abs)).1.length aj)] ?_; intro nu ft; clear fq
   refine nlH (fn _ _ ?_); clear fn jR
   refine sqH ?_; intro jW fu
   refine bt ft aP 6 [0] [] [(104, .slice h (gnegBS (gnegAS u0)).b.abs.length i), (105, .slice z (gcomS (gnegBS (gnegAS u0)).a.abs (gnegBS (gnegAS u0)).b.abs).length A)] ?_; intro nv fv; clear ft
   obtain ⟨jX, fw⟩ := jV
   refine ck fv 70 #[.slice h (gnegBS (gnegAS u0)).b.abs.length i, .slice z (gcomS (gnegBS (gnegAS u0)).a.abs (gnegBS (gnegAS u0)).b.abs).length A] ?_
   refine (gdiv_fun (gnegBS (gnegAS u0)).b.abs (gcomS (gnegBS (gnegAS u0)).a.abs (gnegBS (gnegAS u0)).b.abs) jX h i z A _ _ m I aP.fz).mono ?_; rintro _ jY ⟨aQ, aR, nw, nx, bQ, rfl, fx, jZ, hm⟩; refine ⟨_, rfl, ?_⟩; intro ny fy; have fA := aP.callZ hm; have P := hm.ext.le; clear hm aP fv
   replace hs4 := hs4.mono P
   replace hs7 := hs7.mono P
   replace o := o.mono P
   replace p := p.mono P
   replace n := n.mono P
   replace m := m.mono P
   replace O := O.mono P
   replace I := I.mono P
   replace bP := bP.mono P
   replace c4 := c4.mono P
   replace f := Fz.le.trans f P
   have bR : Mem B [] w0 Z0 ((.row b1 (e41Nd (gnegBS (gnegAS u0)) j l h i) 41) :: Rr) bQ jY := fA; clear fA
   have fB := fw (fx.small); clear fw
   have j0 := fB (jZ.small); clear fB
   refine bt fy bR 5 [] [] [(6, .slice aQ (gdivS (gnegBS (gnegAS u0)).b.abs (gcomS (gnegBS (gnegAS u0)).a.abs (gnegBS (gnegAS u0)).b.abs)).1.length aR)] ?_; intro nz fC; clear fy
   refine nlH (fu _ _ ?_); clear fu jW
   refine sqH ?_; intro j1 fD
   refine bt fC bR 5 [] [] [(110, .slice ai (gdivS (gnegBS (gnegAS u0)).a.abs (gcomS (gnegBS (gnegAS u0)).a.abs (gnegBS (gnegAS u0)).b.abs)).1.length aj), (113, pt b1 1)] ?_; intro nA c5; clear fC
   refine sx c5 bR 0 [.bool (gnegBS (gnegAS u0)).a.neg, .slice ai (gdivS (gnegBS (gnegAS u0)).a.abs (gcomS (gnegBS (gnegAS u0)).a.abs (gnegBS (gnegAS u0)).b.abs)).1.length aj, .bool (gnegBS (gnegAS u0)).b.neg, .slice h (gnegBS (gnegAS u0)).b.abs.length i] 1 ?_; intro j2 fE; clear bR
   have c6 : Mem B [] w0 Z0 ((.row b1 [.bool (gnegBS (gnegAS u0)).a.neg, .slice ai (gdivS (gnegBS (gnegAS u0)).a.abs (gcomS (gnegBS (gnegAS u0)).a.abs (gnegBS (gnegAS u0)).b.abs)).1.length aj, .bool (gnegBS (gnegAS u0)).b.neg, .slice h (gnegBS (gnegAS u0)).b.abs.length i] 41) :: Rr) bQ j2 := fE; clear fE
   refine nlH (fD _ _ ?_); clear fD j1
   refine sqH ?_; intro j3 fF
   refine bt c5 c6 5 [] [] [(115, .slice aQ (gdivS (gnegBS (gnegAS u0)).b.abs (gcomS (gnegBS (gnegAS u0)).a.abs (gnegBS (gnegAS u0)).b.abs)).1.length aR), (118, pt b1 3)] ?_; intro nB c7; clear c5
   refine sx c7 c6 0 [.bool (gnegBS (gnegAS u0)).a.neg, .slice ai (gdivS (gnegBS (gnegAS u0)).a.abs (gcomS (gnegBS (gnegAS u0)).a.abs (gnegBS (gnegAS u0)).b.abs)).1.length aj, .bool (gnegBS (gnegAS u0)).b.neg, .slice aQ (gdivS (gnegBS (gnegAS u0)).b.abs (gcomS (gnegBS (gnegAS u0)).a.abs (gnegBS (gnegAS u0)).b.abs)).1.length aR] 3 ?_; intro j4 fG; clear c6
   have fH : Mem B [] w0 Z0 ((.row b1 [.bool (gnegBS (gnegAS u0)).a.neg, .slice ai (gdivS (gnegBS (gnegAS u0)).a.abs (gcomS (gnegBS (gnegAS u0)).a.abs (gnegBS (gnegAS u0)).b.abs)).1.length aj, .bool (gnegBS (gnegAS u0)).b.neg, .slice aQ (gdivS (gnegBS (gnegAS u0)).b.abs (gcomS (gnegBS (gnegAS u0)).a.abs (gnegBS (gnegAS u0)).b.abs)).1.length aR] 41) :: Rr) bQ j4 := fG; clear fG
   refine nlH (fF _ _ ?_); clear fF j3
   refine sqB c7 fH [] [] [(2, pt b1 0)] ?_; intro nC j5; clear c7
   refine wp_ret ?_
   refine ra1 j5 (pt b1 0) ?_
   exact ⟨(⟨(⟨(gnegBS (gnegAS u0)).a.neg, (gdivS (gnegBS (gnegAS u0)).a.abs (gcomS (gnegBS (gnegAS u0)).a.abs (gnegBS (gnegAS u0)).b.abs)).1⟩ : BInt), (⟨(gnegBS (gnegAS u0)).b.neg, (gdivS (gnegBS (gnegAS u0)).b.abs (gcomS (gnegBS (gnegAS u0)).a.abs (gnegBS (gnegAS u0)).b.abs)).1⟩ : BInt)⟩ : BRat), ai, aj, aQ, aR, bQ, rfl, j0, f, bP, fx, fH.keep (List.Sublist.cons_cons _ (List.Sublist.refl _))⟩
  have j6 := bB.2 aF; clear bB
  have fI := bD.reval (d := 57) (c := []) (v := .bool (((gnegBS (gnegAS u0)).b.abs.length : Int) == 1)) (by kernel_rfl) (.bool false) (by rw [aF]); clear bD
  refine bt fI q 9 [] [58, 59, 60, 61, 62, 63, 64, 65, 66] [(66, .bool false)] ?_; intro j7 c8; clear fI
  refine nlH (bC _ _ ?_); clear bC eM
  refine cdF c8 (by kernel_rfl) ?_
  refine wp_skip ?_
  refine thn ?_
  have fJ : Fr 120 [] [⟨0, [], pt b1 0⟩] j7 := c8.reg; clear c8
  refine wp_seq (rgS mixed q [(0, true), (1, true), (2, true), (3, true), (4, true), (5, true), (6, true), (7, true), (8, true), (9, true), (10, false), (11, true)] [] [0] [.row b1 (e41Nd (gnegBS (gnegAS u0)) j l h i) 41] ?_)
  intro j8 fK nD c9; clear q
  have da := Fz.le.refl bz
  refine cS fJ 10 [0, 0] [] [(72, .slice j (gnegBS (gnegAS u0)).a.abs.length l), (77, .slice h (gnegBS (gnegAS u0)).b.abs.length i)] ?_; intro nE fL; clear fJ
  refine eS rfl ?_; intro j9 fM
  obtain ⟨ka, bS⟩ := j6
  refine ck fL 69 #[.slice j (gnegBS (gnegAS u0)).a.abs.length l, .slice h (gnegBS (gnegAS u0)).b.abs.length i] ?_
  refine (gcom_fun (gnegBS (gnegAS u0)).a.abs (gnegBS (gnegAS u0)).b.abs ka j l h i _ _ n m c9.fz).mono ?_; rintro _ kb ⟨C, D, fN, rfl, J, hm⟩; refine ⟨_, rfl, ?_⟩; intro nF fO; have fP := c9.callZ hm; have ac := hm.ext.le; clear hm c9 fL
  replace hs4 := hs4.mono ac
  replace hs7 := hs7.mono ac
  replace o := o.mono ac
  replace p := p.mono ac
  replace n := n.mono ac
  replace m := m.mono ac
  replace da := da.mono ac
  replace f := Fz.le.trans f ac
  have u : Mem B [] w0 Z0 ((.row b1 (e41Nd (gnegBS (gnegAS u0)) j l h i) 41) :: Rr) fN kb := fP; clear fP
  refine nl (qnI (fM _ _ (u.cst da [0]) ?_)); clear fM j9
  refine cS fO 1 [] [] [(3, .slice C (gcomS (gnegBS (gnegAS u0)).a.abs (gnegBS (gnegAS u0)).b.abs).length D)] ?_; intro nG fQ; clear fO
  refine nS (fK _ _ ?_); clear fK j8
  refine thn ?_
  refine wp_seq ?_
  refine sqH ?_; intro fR bT
  refine bt fQ u 4 [] [] [(82, .bool (((gcomS (gnegBS (gnegAS u0)).a.abs (gnegBS (gnegAS u0)).b.abs).length : Int) == 1))] ?_; intro nH bU; clear fQ
  rcases Bool.eq_false_or_eq_true (((gcomS (gnegBS (gnegAS u0)).a.abs (gnegBS (gnegAS u0)).b.abs).length : Int) == 1) with aS | aS
  ·
   have kc := bS.1 aS; clear bS
   have bV := bU.reval (d := 82) (c := []) (v := .bool (((gcomS (gnegBS (gnegAS u0)).a.abs (gnegBS (gnegAS u0)).b.abs).length : Int) == 1)) (by kernel_rfl) (.bool true) (by rw [aS]); clear bU
   refine st bV (.slice C (gcomS (gnegBS (gnegAS u0)).a.abs (gnegBS (gnegAS u0)).b.abs).length D) (by rw [wanted_of bV (b := true) rfl rfl (by kernel_rfl) (by kernel_rfl)]; rfl) rfl (by kernel_rfl) (p0 bV (by kernel_rfl)) ?_; intro nI db; clear bV
   obtain ⟨kd, fS⟩ := kc
   refine ix db (T := (tyInt .u32)) (xs := (gcomS (gnegBS (gnegAS u0)).a.abs (gnegBS (gnegAS u0)).b.abs)) J (0 : Int) kd (k := .i64) (e := 112) (bytes := 4) (by rw [wanted_of db (b := true) rfl rfl (by kernel_rfl) (by kernel_rfl)]; rfl) rfl (by kernel_rfl) rfl (by kernel_rfl) (by kernel_rfl) (by kernel_rfl) ?_; intro nJ nK ke aT nL kf aU kg bW; clear db
   have bX := fS aT kf; clear fS
   obtain rfl : ke = ([.int .u32 aT] : List Value) := kg
   refine st bW (.int .u32 aT) (by rw [wanted_of bW (b := true) rfl rfl (by kernel_rfl) (by kernel_rfl)]; rfl) rfl (by kernel_rfl) (lz bW u.fz aU 0 (g := []) rfl (by kernel_rfl) (by kernel_rfl) (by kernel_rfl) rfl) ?_; intro nM fT; clear bW
   refine bt fT u 2 [] [86, 87] [(87, .bool (aT == 1))] ?_; intro nN aV; clear fT
   refine nlH (bT _ _ ?_); clear bT fR
   refine cd aV (t := aT == 1) (by kernel_rfl) (fun dc => ?_) (fun dc => ?_)
   ·
    have kh := bX.1 dc; clear bX
    refine sqB aV u [] [] [(2, pt b1 0)] ?_; intro nO ki; clear aV
    refine wp_ret ?_
    refine thr ?_
    refine ra1 ki (pt b1 0) ?_
    exact ⟨(gnegBS (gnegAS u0)), j, l, h, i, fN, rfl, kh, f, n, m, u.keep (List.Sublist.cons_cons _ (List.Sublist.refl _))⟩
   have kj := bX.2 dc; clear bX
   refine wp_skip ?_
   refine thn ?_
   refine sqH ?_; intro kk fU
   refine bt aV u 6 [0] [] [(94, .slice j (gnegBS (gnegAS u0)).a.abs.length l), (95, .slice C (gcomS (gnegBS (gnegAS u0)).a.abs (gnegBS (gnegAS u0)).b.abs).length D)] ?_; intro nP fV; clear aV
   obtain ⟨kl, fW⟩ := kj
   refine ck fV 70 #[.slice j (gnegBS (gnegAS u0)).a.abs.length l, .slice C (gcomS (gnegBS (gnegAS u0)).a.abs (gnegBS (gnegAS u0)).b.abs).length D] ?_
   refine (gdiv_fun (gnegBS (gnegAS u0)).a.abs (gcomS (gnegBS (gnegAS u0)).a.abs (gnegBS (gnegAS u0)).b.abs) kl j l C D _ _ n J u.fz).mono ?_; rintro _ km ⟨ak, al, nQ, nR, kn, rfl, bY, dd, hm⟩; refine ⟨_, rfl, ?_⟩; intro nT fX; have fY := u.callZ hm; have Y := hm.ext.le; clear hm u fV
   replace hs4 := hs4.mono Y
   replace hs7 := hs7.mono Y
   replace o := o.mono Y
   replace p := p.mono Y
   replace n := n.mono Y
   replace m := m.mono Y
   replace J := J.mono Y
   replace aU := aU.mono Y
   replace f := Fz.le.trans f Y
   have aW : Mem B [] w0 Z0 ((.row b1 (e41Nd (gnegBS (gnegAS u0)) j l h i) 41) :: Rr) kn km := fY; clear fY
   have fZ := fW (bY.small); clear fW
   have ko := fZ (dd.small); clear fZ
   refine bt fX aW 5 [] [] [(4, .slice ak (gdivS (gnegBS (gnegAS u0)).a.abs (gcomS (gnegBS (gnegAS u0)).a.abs (gnegBS (gnegAS u0)).b.abs)).1.length al)] ?_; intro nU f0; clear fX
   refine nlH (fU _ _ ?_); clear fU kk
   refine sqH ?_; intro kp f1
   refine bt f0 aW 6 [0] [] [(104, .slice h (gnegBS (gnegAS u0)).b.abs.length i), (105, .slice C (gcomS (gnegBS (gnegAS u0)).a.abs (gnegBS (gnegAS u0)).b.abs).length D)] ?_; intro nV f2; clear f0
   obtain ⟨kq, f3⟩ := ko
   refine ck f2 70 #[.slice h (gnegBS (gnegAS u0)).b.abs.length i, .slice C (gcomS (gnegBS (gnegAS u0)).a.abs (gnegBS (gnegAS u0)).b.abs).length D] ?_
   refine (gdiv_fun (gnegBS (gnegAS u0)).b.abs (gcomS (gnegBS (gnegAS u0)).a.abs (gnegBS (gnegAS u0)).b.abs) kq h i C D _ _ m J aW.fz).mono ?_; rintro _ kr ⟨aX, aY, nW, nX, bZ, rfl, f4, ks, hm⟩; refine ⟨_, rfl, ?_⟩; intro nY f5; have f6 := aW.callZ hm; have Q := hm.ext.le; clear hm aW f2
   replace hs4 := hs4.mono Q
   replace hs7 := hs7.mono Q
   replace o := o.mono Q
   replace p := p.mono Q
   replace n := n.mono Q
   replace m := m.mono Q
   replace J := J.mono Q
   replace aU := aU.mono Q
   replace bY := bY.mono Q
   replace dd := dd.mono Q
   replace f := Fz.le.trans f Q
   have b0 : Mem B [] w0 Z0 ((.row b1 (e41Nd (gnegBS (gnegAS u0)) j l h i) 41) :: Rr) bZ kr := f6; clear f6
   have f7 := f3 (f4.small); clear f3
   have kt := f7 (ks.small); clear f7
   refine bt f5 b0 5 [] [] [(6, .slice aX (gdivS (gnegBS (gnegAS u0)).b.abs (gcomS (gnegBS (gnegAS u0)).a.abs (gnegBS (gnegAS u0)).b.abs)).1.length aY)] ?_; intro nZ f8; clear f5
   refine nlH (f1 _ _ ?_); clear f1 kp
   refine sqH ?_; intro ku f9
   refine bt f8 b0 5 [] [] [(110, .slice ak (gdivS (gnegBS (gnegAS u0)).a.abs (gcomS (gnegBS (gnegAS u0)).a.abs (gnegBS (gnegAS u0)).b.abs)).1.length al), (113, pt b1 1)] ?_; intro n0 de; clear f8
   refine sx de b0 0 [.bool (gnegBS (gnegAS u0)).a.neg, .slice ak (gdivS (gnegBS (gnegAS u0)).a.abs (gcomS (gnegBS (gnegAS u0)).a.abs (gnegBS (gnegAS u0)).b.abs)).1.length al, .bool (gnegBS (gnegAS u0)).b.neg, .slice h (gnegBS (gnegAS u0)).b.abs.length i] 1 ?_; intro kv ga; clear b0
   have df : Mem B [] w0 Z0 ((.row b1 [.bool (gnegBS (gnegAS u0)).a.neg, .slice ak (gdivS (gnegBS (gnegAS u0)).a.abs (gcomS (gnegBS (gnegAS u0)).a.abs (gnegBS (gnegAS u0)).b.abs)).1.length al, .bool (gnegBS (gnegAS u0)).b.neg, .slice h (gnegBS (gnegAS u0)).b.abs.length i] 41) :: Rr) bZ kv := ga; clear ga
   refine nlH (f9 _ _ ?_); clear f9 ku
   refine sqH ?_; intro kw gb
   refine bt de df 5 [] [] [(115, .slice aX (gdivS (gnegBS (gnegAS u0)).b.abs (gcomS (gnegBS (gnegAS u0)).a.abs (gnegBS (gnegAS u0)).b.abs)).1.length aY), (118, pt b1 3)] ?_; intro n1 dg; clear de
   refine sx dg df 0 [.bool (gnegBS (gnegAS u0)).a.neg, .slice ak (gdivS (gnegBS (gnegAS u0)).a.abs (gcomS (gnegBS (gnegAS u0)).a.abs (gnegBS (gnegAS u0)).b.abs)).1.length al, .bool (gnegBS (gnegAS u0)).b.neg, .slice aX (gdivS (gnegBS (gnegAS u0)).b.abs (gcomS (gnegBS (gnegAS u0)).a.abs (gnegBS (gnegAS u0)).b.abs)).1.length aY] 3 ?_; intro kx gc; clear df
   have gd : Mem B [] w0 Z0 ((.row b1 [.bool (gnegBS (gnegAS u0)).a.neg, .slice ak (gdivS (gnegBS (gnegAS u0)).a.abs (gcomS (gnegBS (gnegAS u0)).a.abs (gnegBS (gnegAS u0)).b.abs)).1.length al, .bool (gnegBS (gnegAS u0)).b.neg, .slice aX (gdivS (gnegBS (gnegAS u0)).b.abs (gcomS (gnegBS (gnegAS u0)).a.abs (gnegBS (gnegAS u0)).b.abs)).1.length aY] 41) :: Rr) bZ kx := gc; clear gc
   refine nlH (gb _ _ ?_); clear gb kw
   refine sqB dg gd [] [] [(2, pt b1 0)] ?_; intro n2 ky; clear dg
   refine wp_ret ?_
   refine ra1 ky (pt b1 0) ?_
   exact ⟨(⟨(⟨(gnegBS (gnegAS u0)).a.neg, (gdivS (gnegBS (gnegAS u0)).a.abs (gcomS (gnegBS (gnegAS u0)).a.abs (gnegBS (gnegAS u0)).b.abs)).1⟩ : BInt), (⟨(gnegBS (gnegAS u0)).b.neg, (gdivS (gnegBS (gnegAS u0)).b.abs (gcomS (gnegBS (gnegAS u0)).a.abs (gnegBS (gnegAS u0)).b.abs)).1⟩ : BInt)⟩ : BRat), ak, al, aX, aY, bZ, rfl, kt, f, bY, f4, gd.keep (List.Sublist.cons_cons _ (List.Sublist.refl _))⟩
  have kz := bS.2 aS; clear bS
  have ge := bU.reval (d := 82) (c := []) (v := .bool (((gcomS (gnegBS (gnegAS u0)).a.abs (gnegBS (gnegAS u0)).b.abs).length : Int) == 1)) (by kernel_rfl) (.bool false) (by rw [aS]); clear bU
  refine bt ge u 5 [] [83, 84, 85, 86, 87] [(87, .bool false)] ?_; intro n3 dh; clear ge
  refine nlH (bT _ _ ?_); clear bT fR
  refine cdF dh (by kernel_rfl) ?_
  refine wp_skip ?_
  refine thn ?_
  refine sqH ?_; intro kA gf
  refine bt dh u 6 [0] [] [(94, .slice j (gnegBS (gnegAS u0)).a.abs.length l), (95, .slice C (gcomS (gnegBS (gnegAS u0)).a.abs (gnegBS (gnegAS u0)).b.abs).length D)] ?_; intro n4 gg; clear dh
  obtain ⟨kB, gh⟩ := kz
  refine ck gg 70 #[.slice j (gnegBS (gnegAS u0)).a.abs.length l, .slice C (gcomS (gnegBS (gnegAS u0)).a.abs (gnegBS (gnegAS u0)).b.abs).length D] ?_
  refine (gdiv_fun (gnegBS (gnegAS u0)).a.abs (gcomS (gnegBS (gnegAS u0)).a.abs (gnegBS (gnegAS u0)).b.abs) kB j l C D _ _ n J u.fz).mono ?_; rintro _ kC ⟨am, an, n5, n6, kD, rfl, b2, di, hm⟩; refine ⟨_, rfl, ?_⟩; intro n7 gi; have gj := u.callZ hm; have ad := hm.ext.le; clear hm u gg
  replace hs4 := hs4.mono ad
  replace hs7 := hs7.mono ad
  replace o := o.mono ad
  replace p := p.mono ad
  replace n := n.mono ad
  replace m := m.mono ad
  replace J := J.mono ad
  replace f := Fz.le.trans f ad
  have aZ : Mem B [] w0 Z0 ((.row b1 (e41Nd (gnegBS (gnegAS u0)) j l h i) 41) :: Rr) kD kC := gj; clear gj
  have gk := gh (b2.small); clear gh
  have kE := gk (di.small); clear gk
  refine bt gi aZ 5 [] [] [(4, .slice am (gdivS (gnegBS (gnegAS u0)).a.abs (gcomS (gnegBS (gnegAS u0)).a.abs (gnegBS (gnegAS u0)).b.abs)).1.length an)] ?_; intro n8 gl; clear gi
  refine nlH (gf _ _ ?_); clear gf kA
  refine sqH ?_; intro kF gm
  refine bt gl aZ 6 [0] [] [(104, .slice h (gnegBS (gnegAS u0)).b.abs.length i), (105, .slice C (gcomS (gnegBS (gnegAS u0)).a.abs (gnegBS (gnegAS u0)).b.abs).length D)] ?_; intro n9 gn; clear gl
  obtain ⟨kG, go⟩ := kE
  refine ck gn 70 #[.slice h (gnegBS (gnegAS u0)).b.abs.length i, .slice C (gcomS (gnegBS (gnegAS u0)).a.abs (gnegBS (gnegAS u0)).b.abs).length D] ?_
  refine (gdiv_fun (gnegBS (gnegAS u0)).b.abs (gcomS (gnegBS (gnegAS u0)).a.abs (gnegBS (gnegAS u0)).b.abs) kG h i C D _ _ m J aZ.fz).mono ?_; rintro _ kH ⟨a1, a2, oa, ob, b3, rfl, gp, kI, hm⟩; refine ⟨_, rfl, ?_⟩; intro oc gq; have gr := aZ.callZ hm; have U := hm.ext.le; clear hm aZ gn
  replace hs4 := hs4.mono U
  replace hs7 := hs7.mono U
  replace o := o.mono U
  replace p := p.mono U
  replace n := n.mono U
  replace m := m.mono U
  replace J := J.mono U
  replace b2 := b2.mono U
  replace di := di.mono U
  replace f := Fz.le.trans f U
  have b4 : Mem B [] w0 Z0 ((.row b1 (e41Nd (gnegBS (gnegAS u0)) j l h i) 41) :: Rr) b3 kH := gr; clear gr
  have gs := go (gp.small); clear go
  have kJ := gs (kI.small); clear gs
  refine bt gq b4 5 [] [] [(6, .slice a1 (gdivS (gnegBS (gnegAS u0)).b.abs (gcomS (gnegBS (gnegAS u0)).a.abs (gnegBS (gnegAS u0)).b.abs)).1.length a2)] ?_; intro od gt; clear gq
  refine nlH (gm _ _ ?_); clear gm kF
  refine sqH ?_; intro kK gu
  refine bt gt b4 5 [] [] [(110, .slice am (gdivS (gnegBS (gnegAS u0)).a.abs (gcomS (gnegBS (gnegAS u0)).a.abs (gnegBS (gnegAS u0)).b.abs)).1.length an), (113, pt b1 1)] ?_; intro oe dj; clear gt
  refine sx dj b4 0 [.bool (gnegBS (gnegAS u0)).a.neg, .slice am (gdivS (gnegBS (gnegAS u0)).a.abs (gcomS (gnegBS (gnegAS u0)).a.abs (gnegBS (gnegAS u0)).b.abs)).1.length an, .bool (gnegBS (gnegAS u0)).b.neg, .slice h (gnegBS (gnegAS u0)).b.abs.length i] 1 ?_; intro kL gv; clear b4
  have dk : Mem B [] w0 Z0 ((.row b1 [.bool (gnegBS (gnegAS u0)).a.neg, .slice am (gdivS (gnegBS (gnegAS u0)).a.abs (gcomS (gnegBS (gnegAS u0)).a.abs (gnegBS (gnegAS u0)).b.abs)).1.length an, .bool (gnegBS (gnegAS u0)).b.neg, .slice h (gnegBS (gnegAS u0)).b.abs.length i] 41) :: Rr) b3 kL := gv; clear gv
  refine nlH (gu _ _ ?_); clear gu kK
  refine sqH ?_; intro kM gw
  refine bt dj dk 5 [] [] [(115, .slice a1 (gdivS (gnegBS (gnegAS u0)).b.abs (gcomS (gnegBS (gnegAS u0)).a.abs (gnegBS (gnegAS u0)).b.abs)).1.length a2), (118, pt b1 3)] ?_; intro og dl; clear dj
  refine sx dl dk 0 [.bool (gnegBS (gnegAS u0)).a.neg, .slice am (gdivS (gnegBS (gnegAS u0)).a.abs (gcomS (gnegBS (gnegAS u0)).a.abs (gnegBS (gnegAS u0)).b.abs)).1.length an, .bool (gnegBS (gnegAS u0)).b.neg, .slice a1 (gdivS (gnegBS (gnegAS u0)).b.abs (gcomS (gnegBS (gnegAS u0)).a.abs (gnegBS (gnegAS u0)).b.abs)).1.length a2] 3 ?_; intro kN gx; clear dk
  have gy : Mem B [] w0 Z0 ((.row b1 [.bool (gnegBS (gnegAS u0)).a.neg, .slice am (gdivS (gnegBS (gnegAS u0)).a.abs (gcomS (gnegBS (gnegAS u0)).a.abs (gnegBS (gnegAS u0)).b.abs)).1.length an, .bool (gnegBS (gnegAS u0)).b.neg, .slice a1 (gdivS (gnegBS (gnegAS u0)).b.abs (gcomS (gnegBS (gnegAS u0)).a.abs (gnegBS (gnegAS u0)).b.abs)).1.length a2] 41) :: Rr) b3 kN := gx; clear gx
  refine nlH (gw _ _ ?_); clear gw kM
  refine sqB dl gy [] [] [(2, pt b1 0)] ?_; intro oh kO; clear dl
  refine wp_ret ?_
  refine ra1 kO (pt b1 0) ?_
  exact ⟨(⟨(⟨(gnegBS (gnegAS u0)).a.neg, (gdivS (gnegBS (gnegAS u0)).a.abs (gcomS (gnegBS (gnegAS u0)).a.abs (gnegBS (gnegAS u0)).b.abs)).1⟩ : BInt), (⟨(gnegBS (gnegAS u0)).b.neg, (gdivS (gnegBS (gnegAS u0)).b.abs (gcomS (gnegBS (gnegAS u0)).a.abs (gnegBS (gnegAS u0)).b.abs)).1⟩ : BInt)⟩ : BRat), am, an, a1, a2, b3, rfl, kJ, f, b2, gp, gy.keep (List.Sublist.cons_cons _ (List.Sublist.refl _))⟩
 have b5 := bv.2 cH; clear bv
 refine wp_skip ?_
 refine thn ?_
 refine wp_seq ?_
 refine sqB aD hM0 [0] [] [(44, .bool ((u0.a.abs.length : Int) == 0))] ?_; intro oi a3; clear aD
 refine cd a3 (t := (u0.a.abs.length : Int) == 0) (by kernel_rfl) (fun dm => ?_) (fun dm => ?_)
 ·
  have kP := b5.1 dm; clear b5
  refine sqH ?_; intro kQ gz
  refine bt a3 hM0 3 [] [] [(47, pt b1 2)] ?_; intro oj gA; clear a3
  refine ck gA 56 #[pt b1 2, i6 1] ?_
  refine enter0 Try.func56 rfl rfl (by kernel_rfl) ?_; intro kR gB
  have gC : Fr 18 [] [⟨0, [], pt b1 2⟩, ⟨1, [], i6 1⟩] kR := gB.reg; clear gB
  refine sqB gC hM0 [] [] [] ?_; intro ok gD; clear gC
  refine sqB gD hM0 [] [] [(5, y6 1)] ?_; intro ol gE; clear gD
  refine wp_seq ?_
  refine sqB gE hM0 [] [] [(9, .bool false)] ?_; intro om dn; clear gE
  refine cdF dn (by kernel_rfl) ?_
  refine wp_skip ?_
  refine thn ?_
  refine sqH ?_; intro kS gF
  refine bt dn hM0 4 [] [] [(12, pt b1 2), (14, .bool false), (15, y6 1)] ?_; intro oo gG; clear dn
  obtain ⟨kT, gH⟩ := kP
  refine ck gG 71 #[y6 1] ?_
  refine (gwords_fun 1 kT _ _ hM0.fz).mono ?_; rintro _ kU ⟨gI, gJ, kV, rfl, b6, hm⟩; refine ⟨_, rfl, ?_⟩; intro op gK; have gL := hM0.callZ hm; have dp := hm.ext.le; clear hm hM0 gG
  replace hs4 := hs4.mono dp
  replace hs7 := hs7.mono dp
  replace f := Fz.le.trans f dp
  have dq : Mem B [] w0 Z0 ((.row b1 (e41Nd u0 ao2 cap3 ao5 cap6) 41) :: Rr) kV kU := gL; clear gL
  have gM := gH (b6.small); clear gH
  refine ck gK 58 #[pt b1 2, .bool false, .slice gI (gwordsS 1).length gJ] ?_
  obtain ⟨aa, kW, gN⟩ := hxq gM; clear gM
  have h9 := ggiveB_fun u0 false (gwordsS 1) b1 ao2 cap3 ao5 cap6 gI gJ _ _ _ _ _ _ hs4 hs7 b6 dq dq.fz; rw [kW] at h9; refine h9.mono ?_; clear h9; rintro _ gO ⟨dr, ds, dt, du, dv, rfl, b7, gP, gQ, hm⟩; refine ⟨_, rfl, ?_⟩; intro oq gR; have gS := hm; clear hm dq gK
  replace hs4 := hs4.mono b7
  replace hs7 := hs7.mono b7
  replace b6 := b6.mono b7
  replace f := Fz.le.trans f b7
  have gT : Mem B [] w0 Z0 ((.row b1 (e41Nd aa dr ds dt du) 41) :: Rr) dv gO := gS; clear gS
  have gU := gN (gP.small); clear gN
  have kX := gU (gQ.small); clear gU
  refine s1 gR 4 (pt b1 2) ?_; intro or gV; clear gR
  refine nlH (gF _ _ ?_); clear gF kS
  refine wp_ret ?_
  refine ra1 gV (pt b1 2) ?_
  refine ⟨_, rfl, ?_⟩; intro os gW; clear gA gV
  have gX : Mem B [] w0 Z0 ((.row b1 (e41Nd aa dr ds dt du) 41) :: Rr) dv gO := gT; clear gT
  refine nlH (gz _ _ ?_); clear gz kQ
  refine sqB gW gX [] [] [(2, pt b1 0)] ?_; intro ot kY; clear gW
  refine wp_ret ?_
  refine thr ?_
  refine ra1 kY (pt b1 0) ?_
  exact ⟨aa, dr, ds, dt, du, dv, rfl, kX, f, gP, gQ, gX.keep (List.Sublist.cons_cons _ (List.Sublist.refl _))⟩
 have b8 := b5.2 dm; clear b5
 refine wp_skip ?_
 refine thn ?_
 refine wp_seq ?_
 refine sqH ?_; intro gY b9
 refine bt a3 hM0 8 [0] [] [(57, .bool ((u0.b.abs.length : Int) == 1))] ?_; intro ou ca; clear a3
 rcases Bool.eq_false_or_eq_true ((u0.b.abs.length : Int) == 1) with a4 | a4
 ·
  have kZ := b8.1 a4; clear b8
  have gZ := ca.reval (d := 57) (c := []) (v := .bool ((u0.b.abs.length : Int) == 1)) (by kernel_rfl) (.bool true) (by rw [a4]); clear ca
  refine bt gZ hM0 5 [0] [58, 59, 60, 61, 62] [(62, .slice ao5 u0.b.abs.length cap6)] ?_; intro ov dw; clear gZ
  obtain ⟨k0, g0⟩ := kZ
  refine ix dw (T := (tyInt .u32)) (xs := u0.b.abs) hs7 (0 : Int) k0 (k := .i64) (e := 112) (bytes := 4) (by rw [wanted_of dw (b := true) rfl rfl (by kernel_rfl) (by kernel_rfl)]; rfl) rfl (by kernel_rfl) rfl (by kernel_rfl) (by kernel_rfl) (by kernel_rfl) ?_; intro ow ox k1 a5 oy k2 R k3 cb; clear dw
  have cc := g0 a5 k2; clear g0
  obtain rfl : k1 = ([.int .u32 a5] : List Value) := k3
  refine st cb (.int .u32 a5) (by rw [wanted_of cb (b := true) rfl rfl (by kernel_rfl) (by kernel_rfl)]; rfl) rfl (by kernel_rfl) (lz cb hM0.fz R 0 (g := []) rfl (by kernel_rfl) (by kernel_rfl) (by kernel_rfl) rfl) ?_; intro oz g1; clear cb
  refine bt g1 hM0 2 [] [65, 66] [(66, .bool (a5 == 1))] ?_; intro k4 a6; clear g1
  refine nlH (b9 _ _ ?_); clear b9 gY
  refine cd a6 (t := a5 == 1) (by kernel_rfl) (fun dx => ?_) (fun dx => ?_)
  ·
   have k5 := cc.1 dx; clear cc
   refine sqB a6 hM0 [] [] [(2, pt b1 0)] ?_; intro oA k6; clear a6
   refine wp_ret ?_
   refine thr ?_
   refine ra1 k6 (pt b1 0) ?_
   exact ⟨u0, ao2, cap3, ao5, cap6, Z, rfl, k5, f, hs4, hs7, hM0.keep (List.Sublist.cons_cons _ (List.Sublist.refl _))⟩
  have k7 := cc.2 dx; clear cc
  refine wp_skip ?_
  refine thn ?_
  have g2 : Fr 120 [] [⟨0, [], pt b1 0⟩] k4 := a6.reg; clear a6
  refine wp_seq (rgS mixed hM0 [(0, true), (1, true), (2, true), (3, true), (4, true), (5, true), (6, true), (7, true), (8, true), (9, true), (10, false), (11, true)] [] [0] [.row b1 (e41Nd u0 ao2 cap3 ao5 cap6) 41] ?_)
  intro k8 g3 oB dy; clear hM0
  have dz := Fz.le.refl Z
  refine cS g2 10 [0, 0] [] [(72, .slice ao2 u0.a.abs.length cap3), (77, .slice ao5 u0.b.abs.length cap6)] ?_; intro oC g4; clear g2
  refine eS rfl ?_; intro k9 g5
  obtain ⟨la, ce⟩ := k7
  refine ck g4 69 #[.slice ao2 u0.a.abs.length cap3, .slice ao5 u0.b.abs.length cap6] ?_
  refine (gcom_fun u0.a.abs u0.b.abs la ao2 cap3 ao5 cap6 _ _ hs4 hs7 dy.fz).mono ?_; rintro _ lb ⟨E, F, g6, rfl, L, hm⟩; refine ⟨_, rfl, ?_⟩; intro oD g7; have g8 := dy.callZ hm; have a7 := hm.ext.le; clear hm dy g4
  replace hs4 := hs4.mono a7
  replace hs7 := hs7.mono a7
  replace R := R.mono a7
  replace dz := dz.mono a7
  replace f := Fz.le.trans f a7
  have x : Mem B [] w0 Z0 ((.row b1 (e41Nd u0 ao2 cap3 ao5 cap6) 41) :: Rr) g6 lb := g8; clear g8
  refine nl (qnI (g5 _ _ (x.cst dz [0]) ?_)); clear g5 k9
  refine cS g7 1 [] [] [(3, .slice E (gcomS u0.a.abs u0.b.abs).length F)] ?_; intro oE g9; clear g7
  refine nS (g3 _ _ ?_); clear g3 k8
  refine thn ?_
  refine wp_seq ?_
  refine sqH ?_; intro ha cf
  refine bt g9 x 4 [] [] [(82, .bool (((gcomS u0.a.abs u0.b.abs).length : Int) == 1))] ?_; intro oF cg; clear g9
  rcases Bool.eq_false_or_eq_true (((gcomS u0.a.abs u0.b.abs).length : Int) == 1) with a8 | a8
  ·
   have lc := ce.1 a8; clear ce
   have ch := cg.reval (d := 82) (c := []) (v := .bool (((gcomS u0.a.abs u0.b.abs).length : Int) == 1)) (by kernel_rfl) (.bool true) (by rw [a8]); clear cg
   refine st ch (.slice E (gcomS u0.a.abs u0.b.abs).length F) (by rw [wanted_of ch (b := true) rfl rfl (by kernel_rfl) (by kernel_rfl)]; rfl) rfl (by kernel_rfl) (p0 ch (by kernel_rfl)) ?_; intro oG dA; clear ch
   obtain ⟨ld, hb⟩ := lc
   refine ix dA (T := (tyInt .u32)) (xs := (gcomS u0.a.abs u0.b.abs)) L (0 : Int) ld (k := .i64) (e := 112) (bytes := 4) (by rw [wanted_of dA (b := true) rfl rfl (by kernel_rfl) (by kernel_rfl)]; rfl) rfl (by kernel_rfl) rfl (by kernel_rfl) (by kernel_rfl) (by kernel_rfl) ?_; intro oH oI lf a9 oJ lg ba lh ci; clear dA
   have cj := hb a9 lg; clear hb
   obtain rfl : lf = ([.int .u32 a9] : List Value) := lh
   refine st ci (.int .u32 a9) (by rw [wanted_of ci (b := true) rfl rfl (by kernel_rfl) (by kernel_rfl)]; rfl) rfl (by kernel_rfl) (lz ci x.fz ba 0 (g := []) rfl (by kernel_rfl) (by kernel_rfl) (by kernel_rfl) rfl) ?_; intro oK hc; clear ci
   refine bt hc x 2 [] [86, 87] [(87, .bool (a9 == 1))] ?_; intro oL bb; clear hc
   refine nlH (cf _ _ ?_); clear cf ha
   refine cd bb (t := a9 == 1) (by kernel_rfl) (fun dB => ?_) (fun dB => ?_)
   ·
    have li := cj.1 dB; clear cj
    refine sqB bb x [] [] [(2, pt b1 0)] ?_; intro oM lj; clear bb
    refine wp_ret ?_
    refine thr ?_
    refine ra1 lj (pt b1 0) ?_
    exact ⟨u0, ao2, cap3, ao5, cap6, g6, rfl, li, f, hs4, hs7, x.keep (List.Sublist.cons_cons _ (List.Sublist.refl _))⟩
   have lk := cj.2 dB; clear cj
   refine wp_skip ?_
   refine thn ?_
   refine sqH ?_; intro ll hd
   refine bt bb x 6 [0] [] [(94, .slice ao2 u0.a.abs.length cap3), (95, .slice E (gcomS u0.a.abs u0.b.abs).length F)] ?_; intro oN he; clear bb
   obtain ⟨lm, hf⟩ := lk
   refine ck he 70 #[.slice ao2 u0.a.abs.length cap3, .slice E (gcomS u0.a.abs u0.b.abs).length F] ?_
   refine (gdiv_fun u0.a.abs (gcomS u0.a.abs u0.b.abs) lm ao2 cap3 E F _ _ hs4 L x.fz).mono ?_; rintro _ ln ⟨ao, ap, oO, oP, lo, rfl, cl, dC, hm⟩; refine ⟨_, rfl, ?_⟩; intro oQ hg; have hh := x.callZ hm; have aB := hm.ext.le; clear hm x he
   replace hs4 := hs4.mono aB
   replace hs7 := hs7.mono aB
   replace R := R.mono aB
   replace L := L.mono aB
   replace ba := ba.mono aB
   replace f := Fz.le.trans f aB
   have bc : Mem B [] w0 Z0 ((.row b1 (e41Nd u0 ao2 cap3 ao5 cap6) 41) :: Rr) lo ln := hh; clear hh
   have hi := hf (cl.small); clear hf
   have lp := hi (dC.small); clear hi
   refine bt hg bc 5 [] [] [(4, .slice ao (gdivS u0.a.abs (gcomS u0.a.abs u0.b.abs)).1.length ap)] ?_; intro oR hj; clear hg
   refine nlH (hd _ _ ?_); clear hd ll
   refine sqH ?_; intro lq hk
   refine bt hj bc 6 [0] [] [(104, .slice ao5 u0.b.abs.length cap6), (105, .slice E (gcomS u0.a.abs u0.b.abs).length F)] ?_; intro oS hl; clear hj
   obtain ⟨lr, hn⟩ := lp
   refine ck hl 70 #[.slice ao5 u0.b.abs.length cap6, .slice E (gcomS u0.a.abs u0.b.abs).length F] ?_
   refine (gdiv_fun u0.b.abs (gcomS u0.a.abs u0.b.abs) lr ao5 cap6 E F _ _ hs7 L bc.fz).mono ?_; rintro _ ls ⟨bd, be, oT, oU, cm, rfl, ho, lt, hm⟩; refine ⟨_, rfl, ?_⟩; intro oV hq; have hr := bc.callZ hm; have ae := hm.ext.le; clear hm bc hl
   replace hs4 := hs4.mono ae
   replace hs7 := hs7.mono ae
   replace R := R.mono ae
   replace L := L.mono ae
   replace ba := ba.mono ae
   replace cl := cl.mono ae
   replace dC := dC.mono ae
   replace f := Fz.le.trans f ae
   have co : Mem B [] w0 Z0 ((.row b1 (e41Nd u0 ao2 cap3 ao5 cap6) 41) :: Rr) cm ls := hr; clear hr
   have hs := hn (ho.small); clear hn
   have lu := hs (lt.small); clear hs
   refine bt hq co 5 [] [] [(6, .slice bd (gdivS u0.b.abs (gcomS u0.a.abs u0.b.abs)).1.length be)] ?_; intro oW ht; clear hq
   refine nlH (hk _ _ ?_); clear hk lq
   refine sqH ?_; intro lv hu
   refine bt ht co 5 [] [] [(110, .slice ao (gdivS u0.a.abs (gcomS u0.a.abs u0.b.abs)).1.length ap), (113, pt b1 1)] ?_; intro oX dD; clear ht
   refine sx dD co 0 [.bool u0.a.neg, .slice ao (gdivS u0.a.abs (gcomS u0.a.abs u0.b.abs)).1.length ap, .bool u0.b.neg, .slice ao5 u0.b.abs.length cap6] 1 ?_; intro lw hv; clear co
   have dE : Mem B [] w0 Z0 ((.row b1 [.bool u0.a.neg, .slice ao (gdivS u0.a.abs (gcomS u0.a.abs u0.b.abs)).1.length ap, .bool u0.b.neg, .slice ao5 u0.b.abs.length cap6] 41) :: Rr) cm lw := hv; clear hv
   refine nlH (hu _ _ ?_); clear hu lv
   refine sqH ?_; intro lx hw
   refine bt dD dE 5 [] [] [(115, .slice bd (gdivS u0.b.abs (gcomS u0.a.abs u0.b.abs)).1.length be), (118, pt b1 3)] ?_; intro oY dF; clear dD
   refine sx dF dE 0 [.bool u0.a.neg, .slice ao (gdivS u0.a.abs (gcomS u0.a.abs u0.b.abs)).1.length ap, .bool u0.b.neg, .slice bd (gdivS u0.b.abs (gcomS u0.a.abs u0.b.abs)).1.length be] 3 ?_; intro ly hx; clear dE
   have hy : Mem B [] w0 Z0 ((.row b1 [.bool u0.a.neg, .slice ao (gdivS u0.a.abs (gcomS u0.a.abs u0.b.abs)).1.length ap, .bool u0.b.neg, .slice bd (gdivS u0.b.abs (gcomS u0.a.abs u0.b.abs)).1.length be] 41) :: Rr) cm ly := hx; clear hx
   refine nlH (hw _ _ ?_); clear hw lx
   refine sqB dF hy [] [] [(2, pt b1 0)] ?_; intro oZ lA; clear dF
   refine wp_ret ?_
   refine ra1 lA (pt b1 0) ?_
   exact ⟨(⟨(⟨u0.a.neg, (gdivS u0.a.abs (gcomS u0.a.abs u0.b.abs)).1⟩ : BInt), (⟨u0.b.neg, (gdivS u0.b.abs (gcomS u0.a.abs u0.b.abs)).1⟩ : BInt)⟩ : BRat), ao, ap, bd, be, cm, rfl, lu, f, cl, ho, hy.keep (List.Sublist.cons_cons _ (List.Sublist.refl _))⟩
  have lB := ce.2 a8; clear ce
  have hz := cg.reval (d := 82) (c := []) (v := .bool (((gcomS u0.a.abs u0.b.abs).length : Int) == 1)) (by kernel_rfl) (.bool false) (by rw [a8]); clear cg
  refine bt hz x 5 [] [83, 84, 85, 86, 87] [(87, .bool false)] ?_; intro o0 dG; clear hz
  refine nlH (cf _ _ ?_); clear cf ha
  refine cdF dG (by kernel_rfl) ?_
  refine wp_skip ?_
  refine thn ?_
  refine sqH ?_; intro lC hA
  refine bt dG x 6 [0] [] [(94, .slice ao2 u0.a.abs.length cap3), (95, .slice E (gcomS u0.a.abs u0.b.abs).length F)] ?_; intro o1 hB; clear dG
  obtain ⟨lD, hC⟩ := lB
  refine ck hB 70 #[.slice ao2 u0.a.abs.length cap3, .slice E (gcomS u0.a.abs u0.b.abs).length F] ?_
  refine (gdiv_fun u0.a.abs (gcomS u0.a.abs u0.b.abs) lD ao2 cap3 E F _ _ hs4 L x.fz).mono ?_; rintro _ lE ⟨aq, ar, o2, o3, lF, rfl, cp, dH, hm⟩; refine ⟨_, rfl, ?_⟩; intro o4 hD; have hE := x.callZ hm; have bf := hm.ext.le; clear hm x hB
  replace hs4 := hs4.mono bf
  replace hs7 := hs7.mono bf
  replace R := R.mono bf
  replace L := L.mono bf
  replace f := Fz.le.trans f bf
  have bg : Mem B [] w0 Z0 ((.row b1 (e41Nd u0 ao2 cap3 ao5 cap6) 41) :: Rr) lF lE := hE; clear hE
  have hF := hC (cp.small); clear hC
  have lG := hF (dH.small); clear hF
  refine bt hD bg 5 [] [] [(4, .slice aq (gdivS u0.a.abs (gcomS u0.a.abs u0.b.abs)).1.length ar)] ?_; intro o5 hG; clear hD
  refine nlH (hA _ _ ?_); clear hA lC
  refine sqH ?_; intro lH hH
  refine bt hG bg 6 [0] [] [(104, .slice ao5 u0.b.abs.length cap6), (105, .slice E (gcomS u0.a.abs u0.b.abs).length F)] ?_; intro o6 hI; clear hG
  obtain ⟨lI, hJ⟩ := lG
  refine ck hI 70 #[.slice ao5 u0.b.abs.length cap6, .slice E (gcomS u0.a.abs u0.b.abs).length F] ?_
  refine (gdiv_fun u0.b.abs (gcomS u0.a.abs u0.b.abs) lI ao5 cap6 E F _ _ hs7 L bg.fz).mono ?_; rintro _ lJ ⟨bh, bi, o7, o8, cq, rfl, hK, lK, hm⟩; refine ⟨_, rfl, ?_⟩; intro o9 hL; have hM := bg.callZ hm; have au := hm.ext.le; clear hm bg hI
  replace hs4 := hs4.mono au
  replace hs7 := hs7.mono au
  replace R := R.mono au
  replace L := L.mono au
  replace cp := cp.mono au
  replace dH := dH.mono au
  replace f := Fz.le.trans f au
  have cr : Mem B [] w0 Z0 ((.row b1 (e41Nd u0 ao2 cap3 ao5 cap6) 41) :: Rr) cq lJ := hM; clear hM
  have hN := hJ (hK.small); clear hJ
  have lL := hN (lK.small); clear hN
  refine bt hL cr 5 [] [] [(6, .slice bh (gdivS u0.b.abs (gcomS u0.a.abs u0.b.abs)).1.length bi)] ?_; intro pa hO; clear hL
  refine nlH (hH _ _ ?_); clear hH lH
  refine sqH ?_; intro lM hP
  refine bt hO cr 5 [] [] [(110, .slice aq (gdivS u0.a.abs (gcomS u0.a.abs u0.b.abs)).1.length ar), (113, pt b1 1)] ?_; intro pb dI; clear hO
  refine sx dI cr 0 [.bool u0.a.neg, .slice aq (gdivS u0.a.abs (gcomS u0.a.abs u0.b.abs)).1.length ar, .bool u0.b.neg, .slice ao5 u0.b.abs.length cap6] 1 ?_; intro lN hQ; clear cr
  have dJ : Mem B [] w0 Z0 ((.row b1 [.bool u0.a.neg, .slice aq (gdivS u0.a.abs (gcomS u0.a.abs u0.b.abs)).1.length ar, .bool u0.b.neg, .slice ao5 u0.b.abs.length cap6] 41) :: Rr) cq lN := hQ; clear hQ
  refine nlH (hP _ _ ?_); clear hP lM
  refine sqH ?_; intro lO hR
  refine bt dI dJ 5 [] [] [(115, .slice bh (gdivS u0.b.abs (gcomS u0.a.abs u0.b.abs)).1.length bi), (118, pt b1 3)] ?_; intro pc dK; clear dI
  refine sx dK dJ 0 [.bool u0.a.neg, .slice aq (gdivS u0.a.abs (gcomS u0.a.abs u0.b.abs)).1.length ar, .bool u0.b.neg, .slice bh (gdivS u0.b.abs (gcomS u0.a.abs u0.b.abs)).1.length bi] 3 ?_; intro lP hS; clear dJ
  have hT : Mem B [] w0 Z0 ((.row b1 [.bool u0.a.neg, .slice aq (gdivS u0.a.abs (gcomS u0.a.abs u0.b.abs)).1.length ar, .bool u0.b.neg, .slice bh (gdivS u0.b.abs (gcomS u0.a.abs u0.b.abs)).1.length bi] 41) :: Rr) cq lP := hS; clear hS
  refine nlH (hR _ _ ?_); clear hR lO
  refine sqB dK hT [] [] [(2, pt b1 0)] ?_; intro pd lQ; clear dK
  refine wp_ret ?_
  refine ra1 lQ (pt b1 0) ?_
  exact ⟨(⟨(⟨u0.a.neg, (gdivS u0.a.abs (gcomS u0.a.abs u0.b.abs)).1⟩ : BInt), (⟨u0.b.neg, (gdivS u0.b.abs (gcomS u0.a.abs u0.b.abs)).1⟩ : BInt)⟩ : BRat), aq, ar, bh, bi, cq, rfl, lL, f, cp, hK, hT.keep (List.Sublist.cons_cons _ (List.Sublist.refl _))⟩
 have lR := b8.2 a4; clear b8
 have hU := ca.reval (d := 57) (c := []) (v := .bool ((u0.b.abs.length : Int) == 1)) (by kernel_rfl) (.bool false) (by rw [a4]); clear ca
 refine bt hU hM0 9 [] [58, 59, 60, 61, 62, 63, 64, 65, 66] [(66, .bool false)] ?_; intro lS dL; clear hU
 refine nlH (b9 _ _ ?_); clear b9 gY
 refine cdF dL (by kernel_rfl) ?_
 refine wp_skip ?_
 refine thn ?_
 have hV : Fr 120 [] [⟨0, [], pt b1 0⟩] lS := dL.reg; clear dL
 refine wp_seq (rgS mixed hM0 [(0, true), (1, true), (2, true), (3, true), (4, true), (5, true), (6, true), (7, true), (8, true), (9, true), (10, false), (11, true)] [] [0] [.row b1 (e41Nd u0 ao2 cap3 ao5 cap6) 41] ?_)
 intro lT hW pe dM; clear hM0
 have dN := Fz.le.refl Z
 refine cS hV 10 [0, 0] [] [(72, .slice ao2 u0.a.abs.length cap3), (77, .slice ao5 u0.b.abs.length cap6)] ?_; intro pf hX; clear hV
 refine eS rfl ?_; intro lU hY
 obtain ⟨lV, cs⟩ := lR
 refine ck hX 69 #[.slice ao2 u0.a.abs.length cap3, .slice ao5 u0.b.abs.length cap6] ?_
 refine (gcom_fun u0.a.abs u0.b.abs lV ao2 cap3 ao5 cap6 _ _ hs4 hs7 dM.fz).mono ?_; rintro _ lW ⟨G, H, h0, rfl, M, hm⟩; refine ⟨_, rfl, ?_⟩; intro pg h1; have h2 := dM.callZ hm; have ct := hm.ext.le; clear hm dM hX
 replace hs4 := hs4.mono ct
 replace hs7 := hs7.mono ct
 replace dN := dN.mono ct
 replace f := Fz.le.trans f ct
 have y : Mem B [] w0 Z0 ((.row b1 (e41Nd u0 ao2 cap3 ao5 cap6) 41) :: Rr) h0 lW := h2; clear h2
 refine nl (qnI (hY _ _ (y.cst dN [0]) ?_)); clear hY lU
 refine cS h1 1 [] [] [(3, .slice G (gcomS u0.a.abs u0.b.abs).length H)] ?_; intro ph h3; clear h1
 refine nS (hW _ _ ?_); clear hW lT
 refine thn ?_
 refine wp_seq ?_
 refine sqH ?_; intro h4 cu
 refine bt h3 y 4 [] [] [(82, .bool (((gcomS u0.a.abs u0.b.abs).length : Int) == 1))] ?_; intro pi cv; clear h3
 rcases Bool.eq_false_or_eq_true (((gcomS u0.a.abs u0.b.abs).length : Int) == 1) with bj | bj
 ·
  have lX := cs.1 bj; clear cs
  have cw := cv.reval (d := 82) (c := []) (v := .bool (((gcomS u0.a.abs u0.b.abs).length : Int) == 1)) (by kernel_rfl) (.bool true) (by rw [bj]); clear cv
  refine st cw (.slice G (gcomS u0.a.abs u0.b.abs).length H) (by rw [wanted_of cw (b := true) rfl rfl (by kernel_rfl) (by kernel_rfl)]; rfl) rfl (by kernel_rfl) (p0 cw (by kernel_rfl)) ?_; intro pj dO; clear cw
  obtain ⟨lY, h5⟩ := lX
  refine ix dO (T := (tyInt .u32)) (xs := (gcomS u0.a.abs u0.b.abs)) M (0 : Int) lY (k := .i64) (e := 112) (bytes := 4) (by rw [wanted_of dO (b := true) rfl rfl (by kernel_rfl) (by kernel_rfl)]; rfl) rfl (by kernel_rfl) rfl (by kernel_rfl) (by kernel_rfl) (by kernel_rfl) ?_; intro pk pl lZ bk pm l0 bl l1 cx; clear dO
  have cy := h5 bk l0; clear h5
  obtain rfl : lZ = ([.int .u32 bk] : List Value) := l1
  refine st cx (.int .u32 bk) (by rw [wanted_of cx (b := true) rfl rfl (by kernel_rfl) (by kernel_rfl)]; rfl) rfl (by kernel_rfl) (lz cx y.fz bl 0 (g := []) rfl (by kernel_rfl) (by kernel_rfl) (by kernel_rfl) rfl) ?_; intro pn h6; clear cx
  refine bt h6 y 2 [] [86, 87] [(87, .bool (bk == 1))] ?_; intro po bm; clear h6
  refine nlH (cu _ _ ?_); clear cu h4
  refine cd bm (t := bk == 1) (by kernel_rfl) (fun dP => ?_) (fun dP => ?_)
  ·
   have l2 := cy.1 dP; clear cy
   refine sqB bm y [] [] [(2, pt b1 0)] ?_; intro pp l3; clear bm
   refine wp_ret ?_
   refine thr ?_
   refine ra1 l3 (pt b1 0) ?_
   exact ⟨u0, ao2, cap3, ao5, cap6, h0, rfl, l2, f, hs4, hs7, y.keep (List.Sublist.cons_cons _ (List.Sublist.refl _))⟩
  have l4 := cy.2 dP; clear cy
  refine wp_skip ?_
  refine thn ?_
  refine sqH ?_; intro l5 h7
  refine bt bm y 6 [0] [] [(94, .slice ao2 u0.a.abs.length cap3), (95, .slice G (gcomS u0.a.abs u0.b.abs).length H)] ?_; intro pq h8; clear bm
  obtain ⟨l6, ia⟩ := l4
  refine ck h8 70 #[.slice ao2 u0.a.abs.length cap3, .slice G (gcomS u0.a.abs u0.b.abs).length H] ?_
  refine (gdiv_fun u0.a.abs (gcomS u0.a.abs u0.b.abs) l6 ao2 cap3 G H _ _ hs4 M y.fz).mono ?_; rintro _ l7 ⟨av, aw, pr, ps, l8, rfl, cz, dQ, hm⟩; refine ⟨_, rfl, ?_⟩; intro pu ib; have ic := y.callZ hm; have bn := hm.ext.le; clear hm y h8
  replace hs4 := hs4.mono bn
  replace hs7 := hs7.mono bn
  replace M := M.mono bn
  replace bl := bl.mono bn
  replace f := Fz.le.trans f bn
  have bo : Mem B [] w0 Z0 ((.row b1 (e41Nd u0 ao2 cap3 ao5 cap6) 41) :: Rr) l8 l7 := ic; clear ic
  have id := ia (cz.small); clear ia
  have l9 := id (dQ.small); clear id
  refine bt ib bo 5 [] [] [(4, .slice av (gdivS u0.a.abs (gcomS u0.a.abs u0.b.abs)).1.length aw)] ?_; intro pv ie; clear ib
  refine nlH (h7 _ _ ?_); clear h7 l5
  refine sqH ?_; intro ma ig
  refine bt ie bo 6 [0] [] [(104, .slice ao5 u0.b.abs.length cap6), (105, .slice G (gcomS u0.a.abs u0.b.abs).length H)] ?_; intro pw ih; clear ie
  obtain ⟨mb, ii⟩ := l9
  refine ck ih 70 #[.slice ao5 u0.b.abs.length cap6, .slice G (gcomS u0.a.abs u0.b.abs).length H] ?_
  refine (gdiv_fun u0.b.abs (gcomS u0.a.abs u0.b.abs) mb ao5 cap6 G H _ _ hs7 M bo.fz).mono ?_; rintro _ mc ⟨bp, bq, px, py, cA, rfl, ij, md, hm⟩; refine ⟨_, rfl, ?_⟩; intro pz ik; have il := bo.callZ hm; have ax := hm.ext.le; clear hm bo ih
  replace hs4 := hs4.mono ax
  replace hs7 := hs7.mono ax
  replace M := M.mono ax
  replace bl := bl.mono ax
  replace cz := cz.mono ax
  replace dQ := dQ.mono ax
  replace f := Fz.le.trans f ax
  have cB : Mem B [] w0 Z0 ((.row b1 (e41Nd u0 ao2 cap3 ao5 cap6) 41) :: Rr) cA mc := il; clear il
  have im := ii (ij.small); clear ii
  have me := im (md.small); clear im
  refine bt ik cB 5 [] [] [(6, .slice bp (gdivS u0.b.abs (gcomS u0.a.abs u0.b.abs)).1.length bq)] ?_; intro pA io; clear ik
  refine nlH (ig _ _ ?_); clear ig ma
  refine sqH ?_; intro mf ip
  refine bt io cB 5 [] [] [(110, .slice av (gdivS u0.a.abs (gcomS u0.a.abs u0.b.abs)).1.length aw), (113, pt b1 1)] ?_; intro pB dR; clear io
  refine sx dR cB 0 [.bool u0.a.neg, .slice av (gdivS u0.a.abs (gcomS u0.a.abs u0.b.abs)).1.length aw, .bool u0.b.neg, .slice ao5 u0.b.abs.length cap6] 1 ?_; intro mg iq; clear cB
  have dS : Mem B [] w0 Z0 ((.row b1 [.bool u0.a.neg, .slice av (gdivS u0.a.abs (gcomS u0.a.abs u0.b.abs)).1.length aw, .bool u0.b.neg, .slice ao5 u0.b.abs.length cap6] 41) :: Rr) cA mg := iq; clear iq
  refine nlH (ip _ _ ?_); clear ip mf
  refine sqH ?_; intro mh ir
  refine bt dR dS 5 [] [] [(115, .slice bp (gdivS u0.b.abs (gcomS u0.a.abs u0.b.abs)).1.length bq), (118, pt b1 3)] ?_; intro pC dT; clear dR
  refine sx dT dS 0 [.bool u0.a.neg, .slice av (gdivS u0.a.abs (gcomS u0.a.abs u0.b.abs)).1.length aw, .bool u0.b.neg, .slice bp (gdivS u0.b.abs (gcomS u0.a.abs u0.b.abs)).1.length bq] 3 ?_; intro mi it; clear dS
  have iu : Mem B [] w0 Z0 ((.row b1 [.bool u0.a.neg, .slice av (gdivS u0.a.abs (gcomS u0.a.abs u0.b.abs)).1.length aw, .bool u0.b.neg, .slice bp (gdivS u0.b.abs (gcomS u0.a.abs u0.b.abs)).1.length bq] 41) :: Rr) cA mi := it; clear it
  refine nlH (ir _ _ ?_); clear ir mh
  refine sqB dT iu [] [] [(2, pt b1 0)] ?_; intro pD mj; clear dT
  refine wp_ret ?_
  refine ra1 mj (pt b1 0) ?_
  exact ⟨(⟨(⟨u0.a.neg, (gdivS u0.a.abs (gcomS u0.a.abs u0.b.abs)).1⟩ : BInt), (⟨u0.b.neg, (gdivS u0.b.abs (gcomS u0.a.abs u0.b.abs)).1⟩ : BInt)⟩ : BRat), av, aw, bp, bq, cA, rfl, me, f, cz, ij, iu.keep (List.Sublist.cons_cons _ (List.Sublist.refl _))⟩
 have mk := cs.2 bj; clear cs
 have iv := cv.reval (d := 82) (c := []) (v := .bool (((gcomS u0.a.abs u0.b.abs).length : Int) == 1)) (by kernel_rfl) (.bool false) (by rw [bj]); clear cv
 refine bt iv y 5 [] [83, 84, 85, 86, 87] [(87, .bool false)] ?_; intro pE dU; clear iv
 refine nlH (cu _ _ ?_); clear cu h4
 refine cdF dU (by kernel_rfl) ?_
 refine wp_skip ?_
 refine thn ?_
 refine sqH ?_; intro ml iw
 refine bt dU y 6 [0] [] [(94, .slice ao2 u0.a.abs.length cap3), (95, .slice G (gcomS u0.a.abs u0.b.abs).length H)] ?_; intro pF iy; clear dU
 obtain ⟨mm, iz⟩ := mk
 refine ck iy 70 #[.slice ao2 u0.a.abs.length cap3, .slice G (gcomS u0.a.abs u0.b.abs).length H] ?_
 refine (gdiv_fun u0.a.abs (gcomS u0.a.abs u0.b.abs) mm ao2 cap3 G H _ _ hs4 M y.fz).mono ?_; rintro _ mn ⟨ay, az, pG, pH, mo, rfl, cC, dV, hm⟩; refine ⟨_, rfl, ?_⟩; intro pI iA; have iB := y.callZ hm; have cD := hm.ext.le; clear hm y iy
 replace hs4 := hs4.mono cD
 replace hs7 := hs7.mono cD
 replace M := M.mono cD
 replace f := Fz.le.trans f cD
 have br : Mem B [] w0 Z0 ((.row b1 (e41Nd u0 ao2 cap3 ao5 cap6) 41) :: Rr) mo mn := iB; clear iB
 have iC := iz (cC.small); clear iz
 have mp := iC (dV.small); clear iC
 refine bt iA br 5 [] [] [(4, .slice ay (gdivS u0.a.abs (gcomS u0.a.abs u0.b.abs)).1.length az)] ?_; intro pJ iD; clear iA
 refine nlH (iw _ _ ?_); clear iw ml
 refine sqH ?_; intro mq iE
 refine bt iD br 6 [0] [] [(104, .slice ao5 u0.b.abs.length cap6), (105, .slice G (gcomS u0.a.abs u0.b.abs).length H)] ?_; intro pK iF; clear iD
 obtain ⟨mr, iG⟩ := mp
 refine ck iF 70 #[.slice ao5 u0.b.abs.length cap6, .slice G (gcomS u0.a.abs u0.b.abs).length H] ?_
 refine (gdiv_fun u0.b.abs (gcomS u0.a.abs u0.b.abs) mr ao5 cap6 G H _ _ hs7 M br.fz).mono ?_; rintro _ ms ⟨bs, bu, pL, pM, cE, rfl, iH, mt, hm⟩; refine ⟨_, rfl, ?_⟩; intro pN iI; have iJ := br.callZ hm; have aC := hm.ext.le; clear hm br iF
 replace hs4 := hs4.mono aC
 replace hs7 := hs7.mono aC
 replace M := M.mono aC
 replace cC := cC.mono aC
 replace dV := dV.mono aC
 replace f := Fz.le.trans f aC
 have cF : Mem B [] w0 Z0 ((.row b1 (e41Nd u0 ao2 cap3 ao5 cap6) 41) :: Rr) cE ms := iJ; clear iJ
 have iK := iG (iH.small); clear iG
 have mu := iK (mt.small); clear iK
 refine bt iI cF 5 [] [] [(6, .slice bs (gdivS u0.b.abs (gcomS u0.a.abs u0.b.abs)).1.length bu)] ?_; intro pO iL; clear iI
 refine nlH (iE _ _ ?_); clear iE mq
 refine sqH ?_; intro mv iM
 refine bt iL cF 5 [] [] [(110, .slice ay (gdivS u0.a.abs (gcomS u0.a.abs u0.b.abs)).1.length az), (113, pt b1 1)] ?_; intro pP dW; clear iL
 refine sx dW cF 0 [.bool u0.a.neg, .slice ay (gdivS u0.a.abs (gcomS u0.a.abs u0.b.abs)).1.length az, .bool u0.b.neg, .slice ao5 u0.b.abs.length cap6] 1 ?_; intro mw iN; clear cF
 have dX : Mem B [] w0 Z0 ((.row b1 [.bool u0.a.neg, .slice ay (gdivS u0.a.abs (gcomS u0.a.abs u0.b.abs)).1.length az, .bool u0.b.neg, .slice ao5 u0.b.abs.length cap6] 41) :: Rr) cE mw := iN; clear iN
 refine nlH (iM _ _ ?_); clear iM mv
 refine sqH ?_; intro mx iO
 refine bt dW dX 5 [] [] [(115, .slice bs (gdivS u0.b.abs (gcomS u0.a.abs u0.b.abs)).1.length bu), (118, pt b1 3)] ?_; intro pQ dY; clear dW
 refine sx dY dX 0 [.bool u0.a.neg, .slice ay (gdivS u0.a.abs (gcomS u0.a.abs u0.b.abs)).1.length az, .bool u0.b.neg, .slice bs (gdivS u0.b.abs (gcomS u0.a.abs u0.b.abs)).1.length bu] 3 ?_; intro my iP; clear dX
 have iQ : Mem B [] w0 Z0 ((.row b1 [.bool u0.a.neg, .slice ay (gdivS u0.a.abs (gcomS u0.a.abs u0.b.abs)).1.length az, .bool u0.b.neg, .slice bs (gdivS u0.b.abs (gcomS u0.a.abs u0.b.abs)).1.length bu] 41) :: Rr) cE my := iP; clear iP
 refine nlH (iO _ _ ?_); clear iO mx
 refine sqB dY iQ [] [] [(2, pt b1 0)] ?_; intro pR mz; clear dY
 refine wp_ret ?_
 refine ra1 mz (pt b1 0) ?_
 exact ⟨(⟨(⟨u0.a.neg, (gdivS u0.a.abs (gcomS u0.a.abs u0.b.abs)).1⟩ : BInt), (⟨u0.b.neg, (gdivS u0.b.abs (gcomS u0.a.abs u0.b.abs)).1⟩ : BInt)⟩ : BRat), ay, az, bs, bu, cE, rfl, mu, f, cC, iH, iQ.keep (List.Sublist.cons_cons _ (List.Sublist.refl _))⟩

theorem gcmpAA_walk (u0 : BRat) (u1 : BRat) (b1 : Nat) (ao2 : Option Addr) (cap3 : Nat) (ao5 : Option Addr) (cap6 : Nat) (b8 : Nat) (ao9 : Option Addr) (cap10 : Nat) (ao12 : Option Addr) (cap13 : Nat) (B : Nat) (w0 : World) (Z0 : Fz) (Rr : List Res) (Z : Fz) (w : World) (hs4 : SlR (tyInt .u32) Z ao2 cap3 u0.a.abs) (hs7 : SlR (tyInt .u32) Z ao5 cap6 u0.b.abs) (hs11 : SlR (tyInt .u32) Z ao9 cap10 u1.a.abs) (hs14 : SlR (tyInt .u32) Z ao12 cap13 u1.b.abs) (hM0 : Mem B [] w0 Z0 ((.row b1 [.bool u0.a.neg, .slice ao2 u0.a.abs.length cap3, .bool u0.b.neg, .slice ao5 u0.b.abs.length cap6] 41) :: (.row b8 [.bool u1.a.neg, .slice ao9 u1.a.abs.length cap10, .bool u1.b.neg, .slice ao12 u1.b.abs.length cap13] 41) :: Rr) Z w) (hZ : Z.on w) {K : (Int × BRat × BRat) → Prop} (hp : gcmpAA_vc u0 u1 K) : Calls Try.prog 34 #[pt b1 0, pt b8 0] w fun e w' => ∃ (r : Int × BRat × BRat) (ao1001 : Option Addr) (cap1002 : Nat) (ao1004 : Option Addr) (cap1005 : Nat) (ao1007 : Option Addr) (cap1008 : Nat) (ao1010 : Option Addr) (cap1011 : Nat) (Z' : Fz), e = .returned (i6 r.1) ∧ K r ∧ Fz.le Z Z' ∧ SlR (tyInt .u32) Z' ao1001 cap1002 r.2.1.a.abs ∧ SlR (tyInt .u32) Z' ao1004 cap1005 r.2.1.b.abs ∧ SlR (tyInt .u32) Z' ao1007 cap1008 r.2.2.a.abs ∧ SlR (tyInt .u32) Z' ao1010 cap1011 r.2.2.b.abs ∧ Mem B [] w0 Z0 ((.row b1 [.bool r.2.1.a.neg, .slice ao1001 r.2.1.a.abs.length cap1002, .bool r.2.1.b.neg, .slice ao1004 r.2.1.b.abs.length cap1005] 41) :: (.row b8 [.bool r.2.2.a.neg, .slice ao1007 r.2.2.a.abs.length cap1008, .bool r.2.2.b.neg, .slice ao1010 r.2.2.b.abs.length cap1011] 41) :: Rr) Z' w' := by
 refine enter0 Try.func34 rfl rfl (by kernel_rfl) ?_; intro a0 x; have j := Fz.le.refl Z
 have y := hp (hs4.small); clear hp
 have z := y (hs7.small); clear y
 have A := z (hs11.small); clear z
 have k := A (hs14.small); clear A
 refine sqB x hM0 [] [] [] ?_; intro W C; clear x
 refine wp_seq ?_
 have D : Fr 35 [] [⟨0, [], pt b1 0⟩, ⟨1, [], pt b8 0⟩] W := C.reg; clear C
 refine sqQH mixed (by kernel_rfl) hM0 ?_; intro X E
 refine q1 D 6 (pt b1 0) ?_; intro al F; clear D
 refine q1 F 7 (pt b1 0) ?_; intro am G; clear F
 refine q1 G 8 (pt b1 0) ?_; intro an n; clear G
 refine qst n (.bool u0.a.neg) (nog rfl _) rfl (by kernel_rfl) (fun v33 hC => ld n hC 0 (g := []) (b := b1) (off := 0) (cs := (e41Nd u0 ao2 cap3 ao5 cap6)) (ty := 41) rfl (by kernel_rfl) (by kernel_rfl) (by kernel_rfl) (by kernel_rfl) rfl) ?_; intro ao H; clear n
 refine q1 H 10 (pt b8 0) ?_; intro ap I; clear H
 refine q1 I 11 (pt b8 0) ?_; intro aq J; clear I
 refine q1 J 12 (pt b8 0) ?_; intro ar o; clear J
 refine qst o (.bool u1.a.neg) (nog rfl _) rfl (by kernel_rfl) (fun v45 hC => ld o hC 1 (g := []) (b := b8) (off := 0) (cs := (e41Nd u1 ao9 cap10 ao12 cap13)) (ty := 41) rfl (by kernel_rfl) (by kernel_rfl) (by kernel_rfl) (by kernel_rfl) rfl) ?_; intro au L; clear o
 refine q1 L 14 (.bool (u0.a.neg != u1.a.neg)) ?_; intro Y d; clear L
 refine qnl (E _ ?_); clear E X; intro av c; clear hM0
 refine cd d (t := u0.a.neg != u1.a.neg) (by kernel_rfl) (fun p => ?_) (fun p => ?_)
 ·
  have l := k.1 p; clear k
  refine wp_seq ?_
  refine sqB d c [0] [] [(18, .bool u0.a.neg)] ?_; intro aw f; clear d
  refine cd f (t := u0.a.neg) (by kernel_rfl) (fun q => ?_) (fun q => ?_)
  ·
   have aa := l.1 q; clear l
   refine sqB f c [] [] [(4, i6 (-1))] ?_; intro ax ab; clear f
   refine wp_ret ?_
   refine thr ?_
   refine thr ?_
   refine ra1 ab (i6 (-1)) ?_
   exact ⟨(-1, u0, u1), ao2, cap3, ao5, cap6, ao9, cap10, ao12, cap13, Z, rfl, aa, j, hs4, hs7, hs11, hs14, c.keep (List.Sublist.cons_cons _ (List.Sublist.cons_cons _ (List.Sublist.refl _)))⟩
  have ac := l.2 q; clear l
  refine wp_skip ?_
  refine thn ?_
  refine sqB f c [] [] [(4, i6 1)] ?_; intro ay ad; clear f
  refine wp_ret ?_
  refine thr ?_
  refine ra1 ad (i6 1) ?_
  exact ⟨(1, u0, u1), ao2, cap3, ao5, cap6, ao9, cap10, ao12, cap13, Z, rfl, ac, j, hs4, hs7, hs11, hs14, c.keep (List.Sublist.cons_cons _ (List.Sublist.cons_cons _ (List.Sublist.refl _)))⟩
 have ae := k.2 p; clear k
 refine wp_skip ?_
 refine thn ?_
 have M : Fr 35 [] [⟨0, [], pt b1 0⟩, ⟨1, [], pt b8 0⟩] Y := d.reg; clear d
 refine sqQH mixed (by kernel_rfl) c ?_; intro af N
 refine q1 M 19 (pt b1 0) ?_; intro az O; clear M
 refine q1 O 20 (pt b1 0) ?_; intro aA P; clear O
 refine q1 P 21 (pt b1 1) ?_; intro aB s; clear P
 refine qst s (.slice ao2 u0.a.abs.length cap3) (nog rfl _) rfl (by kernel_rfl) (fun v85 hC => ld s hC 0 (g := []) (b := b1) (off := 1) (cs := (e41Nd u0 ao2 cap3 ao5 cap6)) (ty := 41) rfl (by kernel_rfl) (by kernel_rfl) (by kernel_rfl) (by kernel_rfl) rfl) ?_; intro aC Q; clear s
 refine q1 Q 23 (pt b8 0) ?_; intro aD R; clear Q
 refine q1 R 24 (pt b8 0) ?_; intro aE S; clear R
 refine q1 S 25 (pt b8 1) ?_; intro aF u; clear S
 refine qst u (.slice ao9 u1.a.abs.length cap10) (nog rfl _) rfl (by kernel_rfl) (fun v97 hC => ld u hC 1 (g := []) (b := b8) (off := 1) (cs := (e41Nd u1 ao9 cap10 ao12 cap13)) (ty := 41) rfl (by kernel_rfl) (by kernel_rfl) (by kernel_rfl) (by kernel_rfl) rfl) ?_; intro aG T; clear u
 obtain ⟨ag, m⟩ := ae
 refine qcl T (i6 (gcmpS u0.a.abs u1.a.abs)) 57 #[.slice ao2 u0.a.abs.length cap3, .slice ao9 u1.a.abs.length cap10] (nog rfl _) rfl (by kernel_rfl) (fun _ => by kernel_rfl) (qfc fun w hC => gcmp_fun u0.a.abs u1.a.abs ag ao2 cap3 ao9 cap10 _ _ hs4 hs11 hC.fz) ?_; intro aH U; clear T
 refine q1 U 5 (i6 (gcmpS u0.a.abs u1.a.abs)) ?_; intro aI V; clear U
 refine qnl (N _ ?_); clear N af; intro aJ h; clear c
 refine wp_seq ?_
 refine sqB V h [0] [] [(31, .bool u0.a.neg)] ?_; intro aK i; clear V
 refine cd i (t := u0.a.neg) (by kernel_rfl) (fun v => ?_) (fun v => ?_)
 ·
  have ah := m.1 v; clear m
  refine sqB i h [] [] [(4, i6 (w64 (0 - (gcmpS u0.a.abs u1.a.abs))))] ?_; intro aL ai; clear i
  refine wp_ret ?_
  refine thr ?_
  refine ra1 ai (i6 (w64 (0 - (gcmpS u0.a.abs u1.a.abs)))) ?_
  exact ⟨(w64 (0 - (gcmpS u0.a.abs u1.a.abs)), u0, u1), ao2, cap3, ao5, cap6, ao9, cap10, ao12, cap13, Z, rfl, ah, j, hs4, hs7, hs11, hs14, h.keep (List.Sublist.cons_cons _ (List.Sublist.cons_cons _ (List.Sublist.refl _)))⟩
 have aj := m.2 v; clear m
 refine wp_skip ?_
 refine thn ?_
 refine sqB i h [] [] [(4, i6 (gcmpS u0.a.abs u1.a.abs))] ?_; intro aM ak; clear i
 refine wp_ret ?_
 refine ra1 ak (i6 (gcmpS u0.a.abs u1.a.abs)) ?_
 exact ⟨((gcmpS u0.a.abs u1.a.abs), u0, u1), ao2, cap3, ao5, cap6, ao9, cap10, ao12, cap13, Z, rfl, aj, j, hs4, hs7, hs11, hs14, h.keep (List.Sublist.cons_cons _ (List.Sublist.cons_cons _ (List.Sublist.refl _)))⟩

theorem gcmpBB_walk (u0 : BRat) (u1 : BRat) (b1 : Nat) (ao2 : Option Addr) (cap3 : Nat) (ao5 : Option Addr) (cap6 : Nat) (b8 : Nat) (ao9 : Option Addr) (cap10 : Nat) (ao12 : Option Addr) (cap13 : Nat) (B : Nat) (w0 : World) (Z0 : Fz) (Rr : List Res) (Z : Fz) (w : World) (hs4 : SlR (tyInt .u32) Z ao2 cap3 u0.a.abs) (hs7 : SlR (tyInt .u32) Z ao5 cap6 u0.b.abs) (hs11 : SlR (tyInt .u32) Z ao9 cap10 u1.a.abs) (hs14 : SlR (tyInt .u32) Z ao12 cap13 u1.b.abs) (hM0 : Mem B [] w0 Z0 ((.row b1 [.bool u0.a.neg, .slice ao2 u0.a.abs.length cap3, .bool u0.b.neg, .slice ao5 u0.b.abs.length cap6] 41) :: (.row b8 [.bool u1.a.neg, .slice ao9 u1.a.abs.length cap10, .bool u1.b.neg, .slice ao12 u1.b.abs.length cap13] 41) :: Rr) Z w) (hZ : Z.on w) {K : (Int × BRat × BRat) → Prop} (hp : gcmpBB_vc u0 u1 K) : Calls Try.prog 34 #[pt b1 2, pt b8 2] w fun e w' => ∃ (r : Int × BRat × BRat) (ao1001 : Option Addr) (cap1002 : Nat) (ao1004 : Option Addr) (cap1005 : Nat) (ao1007 : Option Addr) (cap1008 : Nat) (ao1010 : Option Addr) (cap1011 : Nat) (Z' : Fz), e = .returned (i6 r.1) ∧ K r ∧ Fz.le Z Z' ∧ SlR (tyInt .u32) Z' ao1001 cap1002 r.2.1.a.abs ∧ SlR (tyInt .u32) Z' ao1004 cap1005 r.2.1.b.abs ∧ SlR (tyInt .u32) Z' ao1007 cap1008 r.2.2.a.abs ∧ SlR (tyInt .u32) Z' ao1010 cap1011 r.2.2.b.abs ∧ Mem B [] w0 Z0 ((.row b1 [.bool r.2.1.a.neg, .slice ao1001 r.2.1.a.abs.length cap1002, .bool r.2.1.b.neg, .slice ao1004 r.2.1.b.abs.length cap1005] 41) :: (.row b8 [.bool r.2.2.a.neg, .slice ao1007 r.2.2.a.abs.length cap1008, .bool r.2.2.b.neg, .slice ao1010 r.2.2.b.abs.length cap1011] 41) :: Rr) Z' w' := by
 refine enter0 Try.func34 rfl rfl (by kernel_rfl) ?_; intro a0 x; have j := Fz.le.refl Z
 have y := hp (hs4.small); clear hp
 have z := y (hs7.small); clear y
 have A := z (hs11.small); clear z
 have k := A (hs14.small); clear A
 refine sqB x hM0 [] [] [] ?_; intro W C; clear x
 refine wp_seq ?_
 have D : Fr 35 [] [⟨0, [], pt b1 2⟩, ⟨1, [], pt b8 2⟩] W := C.reg; clear C
 refine sqQH mixed (by kernel_rfl) hM0 ?_; intro X E
 refine q1 D 6 (pt b1 2) ?_; intro al F; clear D
 refine q1 F 7 (pt b1 2) ?_; intro am G; clear F
 refine q1 G 8 (pt b1 2) ?_; intro an n; clear G
 refine qst n (.bool u0.b.neg) (nog rfl _) rfl (by kernel_rfl) (fun v33 hC => ld n hC 0 (g := []) (b := b1) (off := 2) (cs := (e41Nd u0 ao2 cap3 ao5 cap6)) (ty := 41) rfl (by kernel_rfl) (by kernel_rfl) (by kernel_rfl) (by kernel_rfl) rfl) ?_; intro ao H; clear n
 refine q1 H 10 (pt b8 2) ?_; intro ap I; clear H
 refine q1 I 11 (pt b8 2) ?_; intro aq J; clear I
 refine q1 J 12 (pt b8 2) ?_; intro ar o; clear J
 refine qst o (.bool u1.b.neg) (nog rfl _) rfl (by kernel_rfl) (fun v45 hC => ld o hC 1 (g := []) (b := b8) (off := 2) (cs := (e41Nd u1 ao9 cap10 ao12 cap13)) (ty := 41) rfl (by kernel_rfl) (by kernel_rfl) (by kernel_rfl) (by kernel_rfl) rfl) ?_; intro au L; clear o
 refine q1 L 14 (.bool (u0.b.neg != u1.b.neg)) ?_; intro Y d; clear L
 refine qnl (E _ ?_); clear E X; intro av c; clear hM0
 refine cd d (t := u0.b.neg != u1.b.neg) (by kernel_rfl) (fun p => ?_) (fun p => ?_)
 ·
  have l := k.1 p; clear k
  refine wp_seq ?_
  refine sqB d c [0] [] [(18, .bool u0.b.neg)] ?_; intro aw f; clear d
  refine cd f (t := u0.b.neg) (by kernel_rfl) (fun q => ?_) (fun q => ?_)
  ·
   have aa := l.1 q; clear l
   refine sqB f c [] [] [(4, i6 (-1))] ?_; intro ax ab; clear f
   refine wp_ret ?_
   refine thr ?_
   refine thr ?_
   refine ra1 ab (i6 (-1)) ?_
   exact ⟨(-1, u0, u1), ao2, cap3, ao5, cap6, ao9, cap10, ao12, cap13, Z, rfl, aa, j, hs4, hs7, hs11, hs14, c.keep (List.Sublist.cons_cons _ (List.Sublist.cons_cons _ (List.Sublist.refl _)))⟩
  have ac := l.2 q; clear l
  refine wp_skip ?_
  refine thn ?_
  refine sqB f c [] [] [(4, i6 1)] ?_; intro ay ad; clear f
  refine wp_ret ?_
  refine thr ?_
  refine ra1 ad (i6 1) ?_
  exact ⟨(1, u0, u1), ao2, cap3, ao5, cap6, ao9, cap10, ao12, cap13, Z, rfl, ac, j, hs4, hs7, hs11, hs14, c.keep (List.Sublist.cons_cons _ (List.Sublist.cons_cons _ (List.Sublist.refl _)))⟩
 have ae := k.2 p; clear k
 refine wp_skip ?_
 refine thn ?_
 have M : Fr 35 [] [⟨0, [], pt b1 2⟩, ⟨1, [], pt b8 2⟩] Y := d.reg; clear d
 refine sqQH mixed (by kernel_rfl) c ?_; intro af N
 refine q1 M 19 (pt b1 2) ?_; intro az O; clear M
 refine q1 O 20 (pt b1 2) ?_; intro aA P; clear O
 refine q1 P 21 (pt b1 3) ?_; intro aB s; clear P
 refine qst s (.slice ao5 u0.b.abs.length cap6) (nog rfl _) rfl (by kernel_rfl) (fun v85 hC => ld s hC 0 (g := []) (b := b1) (off := 3) (cs := (e41Nd u0 ao2 cap3 ao5 cap6)) (ty := 41) rfl (by kernel_rfl) (by kernel_rfl) (by kernel_rfl) (by kernel_rfl) rfl) ?_; intro aC Q; clear s
 refine q1 Q 23 (pt b8 2) ?_; intro aD R; clear Q
 refine q1 R 24 (pt b8 2) ?_; intro aE S; clear R
 refine q1 S 25 (pt b8 3) ?_; intro aF u; clear S
 refine qst u (.slice ao12 u1.b.abs.length cap13) (nog rfl _) rfl (by kernel_rfl) (fun v97 hC => ld u hC 1 (g := []) (b := b8) (off := 3) (cs := (e41Nd u1 ao9 cap10 ao12 cap13)) (ty := 41) rfl (by kernel_rfl) (by kernel_rfl) (by kernel_rfl) (by kernel_rfl) rfl) ?_; intro aG T; clear u
 obtain ⟨ag, m⟩ := ae
 refine qcl T (i6 (gcmpS u0.b.abs u1.b.abs)) 57 #[.slice ao5 u0.b.abs.length cap6, .slice ao12 u1.b.abs.length cap13] (nog rfl _) rfl (by kernel_rfl) (fun _ => by kernel_rfl) (qfc fun w hC => gcmp_fun u0.b.abs u1.b.abs ag ao5 cap6 ao12 cap13 _ _ hs7 hs14 hC.fz) ?_; intro aH U; clear T
 refine q1 U 5 (i6 (gcmpS u0.b.abs u1.b.abs)) ?_; intro aI V; clear U
 refine qnl (N _ ?_); clear N af; intro aJ h; clear c
 refine wp_seq ?_
 refine sqB V h [0] [] [(31, .bool u0.b.neg)] ?_; intro aK i; clear V
 refine cd i (t := u0.b.neg) (by kernel_rfl) (fun v => ?_) (fun v => ?_)
 ·
  have ah := m.1 v; clear m
  refine sqB i h [] [] [(4, i6 (w64 (0 - (gcmpS u0.b.abs u1.b.abs))))] ?_; intro aL ai; clear i
  refine wp_ret ?_
  refine thr ?_
  refine ra1 ai (i6 (w64 (0 - (gcmpS u0.b.abs u1.b.abs)))) ?_
  exact ⟨(w64 (0 - (gcmpS u0.b.abs u1.b.abs)), u0, u1), ao2, cap3, ao5, cap6, ao9, cap10, ao12, cap13, Z, rfl, ah, j, hs4, hs7, hs11, hs14, h.keep (List.Sublist.cons_cons _ (List.Sublist.cons_cons _ (List.Sublist.refl _)))⟩
 have aj := m.2 v; clear m
 refine wp_skip ?_
 refine thn ?_
 refine sqB i h [] [] [(4, i6 (gcmpS u0.b.abs u1.b.abs))] ?_; intro aM ak; clear i
 refine wp_ret ?_
 refine ra1 ak (i6 (gcmpS u0.b.abs u1.b.abs)) ?_
 exact ⟨((gcmpS u0.b.abs u1.b.abs), u0, u1), ao2, cap3, ao5, cap6, ao9, cap10, ao12, cap13, Z, rfl, aj, j, hs4, hs7, hs11, hs14, h.keep (List.Sublist.cons_cons _ (List.Sublist.cons_cons _ (List.Sublist.refl _)))⟩

end Go.Proofs.Ytdndfbamhnchfaa
set_option linter.unusedVariables false
set_option linter.unusedSimpArgs false
set_option maxRecDepth 100000
set_option maxHeartbeats 0
namespace Go.Proofs.Ytdndfbamhnchfaa
open Go.Sy Go.RowKit
abbrev e41Ne (X : BRat) (A0 : Option Addr) (C0 : Nat) (A1 : Option Addr) (C1 : Nat) : List Value := [.bool X.a.neg, .slice A0 X.a.abs.length C0, .bool X.b.neg, .slice A1 X.b.abs.length C1]
theorem rnorm_fun (u0 : BRat) (hpre : bk u0.a ∧ bk u0.b ∧ iv u0.b ≠ 0) (b1 : Nat) (ao2 : Option Addr) (cap3 : Nat) (ao5 : Option Addr) (cap6 : Nat) (B : Nat) (w0 : World) (Z0 : Fz) (Rr : List Res) (Z : Fz) (w : World) (hs4 : SlR (tyInt .u32) Z ao2 cap3 u0.a.abs) (hs7 : SlR (tyInt .u32) Z ao5 cap6 u0.b.abs) (hM0 : Mem B [] w0 Z0 ((.row b1 [.bool u0.a.neg, .slice ao2 u0.a.abs.length cap3, .bool u0.b.neg, .slice ao5 u0.b.abs.length cap6] 41) :: Rr) Z w) (hZ : Z.on w) : Calls Try.prog 55 #[pt b1 0] w fun e w' => ∃ (ao1001 : Option Addr) (cap1002 : Nat) (ao1004 : Option Addr) (cap1005 : Nat) (Z' : Fz), e = .returned (pt b1 0) ∧ Fz.le Z Z' ∧ SlR (tyInt .u32) Z' ao1001 cap1002 (rnormS u0).a.abs ∧ SlR (tyInt .u32) Z' ao1004 cap1005 (rnormS u0).b.abs ∧ Mem B [] w0 Z0 ((.row b1 [.bool (rnormS u0).a.neg, .slice ao1001 (rnormS u0).a.abs.length cap1002, .bool (rnormS u0).b.neg, .slice ao1004 (rnormS u0).b.abs.length cap1005] 41) :: Rr) Z' w' :=
  (rnorm_walk u0 b1 ao2 cap3 ao5 cap6 B w0 Z0 Rr Z w hs4 hs7 hM0 hZ (rnorm_ok u0 hpre)).mono fun _ _ ⟨r, h0, h1, h2, h3, h4, he, hk, f0, f1, f2, hm⟩ => by subst hk; exact ⟨h0, h1, h2, h3, h4, he, f0, f1, f2, hm⟩

theorem gcmpAA_fun (u0 : BRat) (u1 : BRat) (hpre : bk u0.a ∧ bk u1.a) (b1 : Nat) (ao2 : Option Addr) (cap3 : Nat) (ao5 : Option Addr) (cap6 : Nat) (b8 : Nat) (ao9 : Option Addr) (cap10 : Nat) (ao12 : Option Addr) (cap13 : Nat) (B : Nat) (w0 : World) (Z0 : Fz) (Rr : List Res) (Z : Fz) (w : World) (hs4 : SlR (tyInt .u32) Z ao2 cap3 u0.a.abs) (hs7 : SlR (tyInt .u32) Z ao5 cap6 u0.b.abs) (hs11 : SlR (tyInt .u32) Z ao9 cap10 u1.a.abs) (hs14 : SlR (tyInt .u32) Z ao12 cap13 u1.b.abs) (hM0 : Mem B [] w0 Z0 ((.row b1 [.bool u0.a.neg, .slice ao2 u0.a.abs.length cap3, .bool u0.b.neg, .slice ao5 u0.b.abs.length cap6] 41) :: (.row b8 [.bool u1.a.neg, .slice ao9 u1.a.abs.length cap10, .bool u1.b.neg, .slice ao12 u1.b.abs.length cap13] 41) :: Rr) Z w) (hZ : Z.on w) : Calls Try.prog 34 #[pt b1 0, pt b8 0] w fun e w' => ∃ (ao1001 : Option Addr) (cap1002 : Nat) (ao1004 : Option Addr) (cap1005 : Nat) (ao1007 : Option Addr) (cap1008 : Nat) (ao1010 : Option Addr) (cap1011 : Nat) (Z' : Fz), e = .returned (i6 (gcmpAAS u0 u1).1) ∧ Fz.le Z Z' ∧ SlR (tyInt .u32) Z' ao1001 cap1002 (gcmpAAS u0 u1).2.1.a.abs ∧ SlR (tyInt .u32) Z' ao1004 cap1005 (gcmpAAS u0 u1).2.1.b.abs ∧ SlR (tyInt .u32) Z' ao1007 cap1008 (gcmpAAS u0 u1).2.2.a.abs ∧ SlR (tyInt .u32) Z' ao1010 cap1011 (gcmpAAS u0 u1).2.2.b.abs ∧ Mem B [] w0 Z0 ((.row b1 [.bool (gcmpAAS u0 u1).2.1.a.neg, .slice ao1001 (gcmpAAS u0 u1).2.1.a.abs.length cap1002, .bool (gcmpAAS u0 u1).2.1.b.neg, .slice ao1004 (gcmpAAS u0 u1).2.1.b.abs.length cap1005] 41) :: (.row b8 [.bool (gcmpAAS u0 u1).2.2.a.neg, .slice ao1007 (gcmpAAS u0 u1).2.2.a.abs.length cap1008, .bool (gcmpAAS u0 u1).2.2.b.neg, .slice ao1010 (gcmpAAS u0 u1).2.2.b.abs.length cap1011] 41) :: Rr) Z' w' :=
  (gcmpAA_walk u0 u1 b1 ao2 cap3 ao5 cap6 b8 ao9 cap10 ao12 cap13 B w0 Z0 Rr Z w hs4 hs7 hs11 hs14 hM0 hZ (gcmpAA_ok u0 u1 hpre)).mono fun _ _ ⟨r, h0, h1, h2, h3, h4, h5, h6, h7, h8, he, hk, f0, f1, f2, f3, f4, hm⟩ => by subst hk; exact ⟨h0, h1, h2, h3, h4, h5, h6, h7, h8, he, f0, f1, f2, f3, f4, hm⟩

theorem gcmpBB_fun (u0 : BRat) (u1 : BRat) (hpre : bk u0.b ∧ bk u1.b) (b1 : Nat) (ao2 : Option Addr) (cap3 : Nat) (ao5 : Option Addr) (cap6 : Nat) (b8 : Nat) (ao9 : Option Addr) (cap10 : Nat) (ao12 : Option Addr) (cap13 : Nat) (B : Nat) (w0 : World) (Z0 : Fz) (Rr : List Res) (Z : Fz) (w : World) (hs4 : SlR (tyInt .u32) Z ao2 cap3 u0.a.abs) (hs7 : SlR (tyInt .u32) Z ao5 cap6 u0.b.abs) (hs11 : SlR (tyInt .u32) Z ao9 cap10 u1.a.abs) (hs14 : SlR (tyInt .u32) Z ao12 cap13 u1.b.abs) (hM0 : Mem B [] w0 Z0 ((.row b1 [.bool u0.a.neg, .slice ao2 u0.a.abs.length cap3, .bool u0.b.neg, .slice ao5 u0.b.abs.length cap6] 41) :: (.row b8 [.bool u1.a.neg, .slice ao9 u1.a.abs.length cap10, .bool u1.b.neg, .slice ao12 u1.b.abs.length cap13] 41) :: Rr) Z w) (hZ : Z.on w) : Calls Try.prog 34 #[pt b1 2, pt b8 2] w fun e w' => ∃ (ao1001 : Option Addr) (cap1002 : Nat) (ao1004 : Option Addr) (cap1005 : Nat) (ao1007 : Option Addr) (cap1008 : Nat) (ao1010 : Option Addr) (cap1011 : Nat) (Z' : Fz), e = .returned (i6 (gcmpBBS u0 u1).1) ∧ Fz.le Z Z' ∧ SlR (tyInt .u32) Z' ao1001 cap1002 (gcmpBBS u0 u1).2.1.a.abs ∧ SlR (tyInt .u32) Z' ao1004 cap1005 (gcmpBBS u0 u1).2.1.b.abs ∧ SlR (tyInt .u32) Z' ao1007 cap1008 (gcmpBBS u0 u1).2.2.a.abs ∧ SlR (tyInt .u32) Z' ao1010 cap1011 (gcmpBBS u0 u1).2.2.b.abs ∧ Mem B [] w0 Z0 ((.row b1 [.bool (gcmpBBS u0 u1).2.1.a.neg, .slice ao1001 (gcmpBBS u0 u1).2.1.a.abs.length cap1002, .bool (gcmpBBS u0 u1).2.1.b.neg, .slice ao1004 (gcmpBBS u0 u1).2.1.b.abs.length cap1005] 41) :: (.row b8 [.bool (gcmpBBS u0 u1).2.2.a.neg, .slice ao1007 (gcmpBBS u0 u1).2.2.a.abs.length cap1008, .bool (gcmpBBS u0 u1).2.2.b.neg, .slice ao1010 (gcmpBBS u0 u1).2.2.b.abs.length cap1011] 41) :: Rr) Z' w' :=
  (gcmpBB_walk u0 u1 b1 ao2 cap3 ao5 cap6 b8 ao9 cap10 ao12 cap13 B w0 Z0 Rr Z w hs4 hs7 hs11 hs14 hM0 hZ (gcmpBB_ok u0 u1 hpre)).mono fun _ _ ⟨r, h0, h1, h2, h3, h4, h5, h6, h7, h8, he, hk, f0, f1, f2, f3, f4, hm⟩ => by subst hk; exact ⟨h0, h1, h2, h3, h4, h5, h6, h7, h8, he, f0, f1, f2, f3, f4, hm⟩

theorem rsf_walk (u0 : BRat) (u1 : BInt) (u2 : BInt) (b1 : Nat) (ao2 : Option Addr) (cap3 : Nat) (ao5 : Option Addr) (cap6 : Nat) (b8 : Nat) (ao9 : Option Addr) (cap10 : Nat) (b12 : Nat) (ao13 : Option Addr) (cap14 : Nat) (B : Nat) (w0 : World) (Z0 : Fz) (Rr : List Res) (Z : Fz) (w : World) (hs4 : SlR (tyInt .u32) Z ao2 cap3 u0.a.abs) (hs7 : SlR (tyInt .u32) Z ao5 cap6 u0.b.abs) (hs11 : SlR (tyInt .u32) Z ao9 cap10 u1.abs) (hs15 : SlR (tyInt .u32) Z ao13 cap14 u2.abs) (hM0 : Mem B [] w0 Z0 ((.row b1 [.bool u0.a.neg, .slice ao2 u0.a.abs.length cap3, .bool u0.b.neg, .slice ao5 u0.b.abs.length cap6] 41) :: (.row b8 [.bool u1.neg, .slice ao9 u1.abs.length cap10] 39) :: (.row b12 [.bool u2.neg, .slice ao13 u2.abs.length cap14] 39) :: Rr) Z w) (hZ : Z.on w) {K : (BRat × BInt × BInt) → Prop} (hp : rsf_vc u0 u1 u2 K) : Calls Try.prog 31 #[pt b1 0, pt b8 0, pt b12 0] w fun e w' => ∃ (r : BRat × BInt × BInt) (ao1001 : Option Addr) (cap1002 : Nat) (ao1004 : Option Addr) (cap1005 : Nat) (ao1007 : Option Addr) (cap1008 : Nat) (ao1010 : Option Addr) (cap1011 : Nat) (Z' : Fz), e = .returned (pt b1 0) ∧ K r ∧ Fz.le Z Z' ∧ SlR (tyInt .u32) Z' ao1001 cap1002 r.1.a.abs ∧ SlR (tyInt .u32) Z' ao1004 cap1005 r.1.b.abs ∧ SlR (tyInt .u32) Z' ao1007 cap1008 r.2.1.abs ∧ SlR (tyInt .u32) Z' ao1010 cap1011 r.2.2.abs ∧ Mem B [] w0 Z0 ((.row b1 [.bool r.1.a.neg, .slice ao1001 r.1.a.abs.length cap1002, .bool r.1.b.neg, .slice ao1004 r.1.b.abs.length cap1005] 41) :: (.row b8 [.bool r.2.1.neg, .slice ao1007 r.2.1.abs.length cap1008] 39) :: (.row b12 [.bool r.2.2.neg, .slice ao1010 r.2.2.abs.length cap1011] 39) :: Rr) Z' w' := by
 refine enter0 Try.func31 rfl rfl (by kernel_rfl) ?_; intro a0 X; have f := Fz.le.refl Z
 have Y := hp (hs4.small); clear hp
 have aa := Y (hs7.small); clear Y
 have ab := aa (hs11.small); clear aa
 have be := ab (hs15.small); clear ab
 refine sqB X hM0 [] [] [] ?_; intro bP ac; clear X
 refine wp_seq ?_
 refine sqB ac hM0 [2] [] [(14, .bool ((u2.abs.length : Int) == 0))] ?_; intro bQ C; clear ac
 obtain ⟨bf, bg⟩ := be
 refine cn C bf ?_
 refine wp_skip ?_
 refine thn ?_
 refine sqH ?_; intro bh ad
 refine nw C hM0 pb [.bool false, .slice none 0 0] 39 ?_; intro c bR bS ae D; clear C hM0
 refine s1 ae 20 (pt b8 0) ?_; intro bT af; clear ae
 refine ck af 54 #[pt c 0, pt b8 0] ?_
 refine enter0 Try.func54 rfl rfl (by kernel_rfl) ?_; intro bi ag
 have ah : Fr 16 [] [⟨0, [], pt c 0⟩, ⟨1, [], pt b8 0⟩] bi := ag.region (by kernel_rfl) (by kernel_rfl); clear ag
 refine sqB ah D [] [] [] ?_; intro bj ai; clear ah
 have aj : Fr 16 [] [⟨0, [], pt c 0⟩, ⟨1, [], pt b8 0⟩] bj := ai.region (by kernel_rfl) (by kernel_rfl); clear ai
 refine wp_seq (rgS mixed D [(0, true), (1, true), (2, true), (3, true), (4, true), (5, true), (6, true), (7, true), (8, true), (9, false), (10, false), (11, true)] [] [2] [.row b8 [.bool u1.neg, .slice ao9 u1.abs.length cap10] 39] ?_)
 intro bk ak bU E; clear D
 have o := Fz.le.refl Z
 refine cS aj 9 [0, 0] [] [(5, pt c 0), (9, .bool u1.neg), (13, .slice ao9 u1.abs.length cap10)] ?_; intro bV al; clear aj
 refine eS rfl ?_; intro bl am
 obtain ⟨bm, bn⟩ := bg
 refine ck al 67 #[.slice ao9 u1.abs.length cap10] ?_
 refine (gtwin_fun u1.abs bm ao9 cap10 _ _ hs11 E.fz).mono ?_; rintro _ an ⟨F, G, bo, rfl, hm⟩; refine ⟨_, rfl, ?_⟩; intro bW ao; have ap := E.callZ hm; have u := hm.ext.le; clear hm E al
 replace hs4 := hs4.mono u
 replace hs7 := hs7.mono u
 replace hs11 := hs11.mono u
 replace hs15 := hs15.mono u
 replace o := o.mono u
 replace f := Fz.le.trans f u
 have aq : Mem B [] w0 Z0 ((.own (tyInt .u32) 112 F G (gtwinS u1.abs)) :: (.row c [.bool false, .slice none 0 0] 39) :: (.row b1 (e41Ne u0 ao2 cap3 ao5 cap6) 41) :: (.row b8 [.bool u1.neg, .slice ao9 u1.abs.length cap10] 39) :: (.row b12 [.bool u2.neg, .slice ao13 u2.abs.length cap14] 39) :: Rr) bo an := ap; clear ap
 refine nl (qnI (am _ _ (aq.cst o [3]) ?_)); clear am bl
 refine eS rfl ?_; intro bp ar
 obtain ⟨bq, v, au, i⟩ := aq.freeze 0 rfl
 replace hs4 := hs4.mono v
 replace hs7 := hs7.mono v
 replace hs11 := hs11.mono v
 replace hs15 := hs15.mono v
 replace o := o.mono v
 replace f := Fz.le.trans f v
 have H : Mem B [] w0 Z0 ((.row c [.bool false, .slice none 0 0] 39) :: (.row b1 (e41Ne u0 ao2 cap3 ao5 cap6) 41) :: (.row b8 [.bool u1.neg, .slice ao9 u1.abs.length cap10] 39) :: (.row b12 [.bool u2.neg, .slice ao13 u2.abs.length cap14] 39) :: Rr) bq an := au; clear au
 refine ck ao 58 #[pt c 0, .bool u1.neg, .slice F (gtwinS u1.abs).length G] ?_
 refine (ggive_fun (⟨false, []⟩ : BInt) u1.neg (gtwinS u1.abs) c none 0 F G _ _ _ _ _ _ (SlR.nil _ _) i H H.fz).mono ?_; rintro _ br ⟨g, h, I, rfl, t, j, hm⟩; refine ⟨_, rfl, ?_⟩; intro bX av; have aw := hm; clear hm H ao
 replace hs4 := hs4.mono t
 replace hs7 := hs7.mono t
 replace hs11 := hs11.mono t
 replace hs15 := hs15.mono t
 replace o := o.mono t
 replace i := i.mono t
 replace f := Fz.le.trans f t
 have J : Mem B [] w0 Z0 ((.row c [.bool (ggive (⟨false, []⟩ : BInt) u1.neg (gtwinS u1.abs)).neg, .slice g (ggive (⟨false, []⟩ : BInt) u1.neg (gtwinS u1.abs)).abs.length h] 39) :: (.row b1 (e41Ne u0 ao2 cap3 ao5 cap6) 41) :: (.row b8 [.bool u1.neg, .slice ao9 u1.abs.length cap10] 39) :: (.row b12 [.bool u2.neg, .slice ao13 u2.abs.length cap14] 39) :: Rr) I br := aw; clear aw
 refine nl (qnI (ar _ _ (J.cst o [2]) ?_)); clear ar bp
 refine cS av 1 [] [] [(4, pt c 0)] ?_; intro bY ax; clear av
 refine nS (ak _ _ ?_); clear ak bk
 refine thn ?_
 refine wp_ret ?_
 refine ra1 ax (pt c 0) ?_
 refine ⟨_, rfl, ?_⟩; intro bZ ay; clear af ax
 refine nw ay J pb [.bool false, .slice none 0 0] 39 ?_; intro d b0 bs az aA; clear ay J
 refine s1 az 23 (pt b12 0) ?_; intro b2 aB; clear az
 have L : Mem B [] w0 Z0 ((.row d [.bool false, .slice none 0 0] 39) :: (.row c [.bool (ggive (⟨false, []⟩ : BInt) u1.neg (gtwinS u1.abs)).neg, .slice g (ggive (⟨false, []⟩ : BInt) u1.neg (gtwinS u1.abs)).abs.length h] 39) :: (.row b1 (e41Ne u0 ao2 cap3 ao5 cap6) 41) :: (.row b8 [.bool u1.neg, .slice ao9 u1.abs.length cap10] 39) :: (.row b12 [.bool u2.neg, .slice ao13 u2.abs.length cap14] 39) :: Rr) I bs := aA; clear aA
 refine ck aB 54 #[pt d 0, pt b12 0] ?_
 refine enter0 Try.func54 rfl rfl (by kernel_rfl) ?_; intro bu aC
 have aD : Fr 16 [] [⟨0, [], pt d 0⟩, ⟨1, [], pt b12 0⟩] bu := aC.region (by kernel_rfl) (by kernel_rfl); clear aC
 refine sqB aD L [] [] [] ?_; intro bv aE; clear aD
 have aF : Fr 16 [] [⟨0, [], pt d 0⟩, ⟨1, [], pt b12 0⟩] bv := aE.region (by kernel_rfl) (by kernel_rfl); clear aE
 refine wp_seq (rgS mixed L [(0, true), (1, true), (2, true), (3, true), (4, true), (5, true), (6, true), (7, true), (8, true), (9, false), (10, false), (11, true)] [] [4] [.row b12 [.bool u2.neg, .slice ao13 u2.abs.length cap14] 39] ?_)
 intro bw aG b3 M; clear L
 have p := Fz.le.refl I
 refine cS aF 9 [0, 0] [] [(5, pt d 0), (9, .bool u2.neg), (13, .slice ao13 u2.abs.length cap14)] ?_; intro b4 aH; clear aF
 refine eS rfl ?_; intro bx aI
 obtain ⟨bz, bA⟩ := bn
 refine ck aH 67 #[.slice ao13 u2.abs.length cap14] ?_
 refine (gtwin_fun u2.abs bz ao13 cap14 _ _ hs15 M.fz).mono ?_; rintro _ aJ ⟨N, O, bB, rfl, hm⟩; refine ⟨_, rfl, ?_⟩; intro b5 aK; have aL := M.callZ hm; have q := hm.ext.le; clear hm M aH
 replace hs4 := hs4.mono q
 replace hs7 := hs7.mono q
 replace hs11 := hs11.mono q
 replace hs15 := hs15.mono q
 replace i := i.mono q
 replace j := j.mono q
 replace p := p.mono q
 replace f := Fz.le.trans f q
 have aM : Mem B [] w0 Z0 ((.own (tyInt .u32) 112 N O (gtwinS u2.abs)) :: (.row d [.bool false, .slice none 0 0] 39) :: (.row c [.bool (ggive (⟨false, []⟩ : BInt) u1.neg (gtwinS u1.abs)).neg, .slice g (ggive (⟨false, []⟩ : BInt) u1.neg (gtwinS u1.abs)).abs.length h] 39) :: (.row b1 (e41Ne u0 ao2 cap3 ao5 cap6) 41) :: (.row b8 [.bool u1.neg, .slice ao9 u1.abs.length cap10] 39) :: (.row b12 [.bool u2.neg, .slice ao13 u2.abs.length cap14] 39) :: Rr) bB aJ := aL; clear aL
 refine nl (qnI (aI _ _ (aM.cst p [5]) ?_)); clear aI bx
 refine eS rfl ?_; intro bC aN
 obtain ⟨bD, s, aO, x⟩ := aM.freeze 0 rfl
 replace hs4 := hs4.mono s
 replace hs7 := hs7.mono s
 replace hs11 := hs11.mono s
 replace hs15 := hs15.mono s
 replace i := i.mono s
 replace j := j.mono s
 replace p := p.mono s
 replace f := Fz.le.trans f s
 have P : Mem B [] w0 Z0 ((.row d [.bool false, .slice none 0 0] 39) :: (.row c [.bool (ggive (⟨false, []⟩ : BInt) u1.neg (gtwinS u1.abs)).neg, .slice g (ggive (⟨false, []⟩ : BInt) u1.neg (gtwinS u1.abs)).abs.length h] 39) :: (.row b1 (e41Ne u0 ao2 cap3 ao5 cap6) 41) :: (.row b8 [.bool u1.neg, .slice ao9 u1.abs.length cap10] 39) :: (.row b12 [.bool u2.neg, .slice ao13 u2.abs.length cap14] 39) :: Rr) bD aJ := aO; clear aO
 refine ck aK 58 #[pt d 0, .bool u2.neg, .slice N (gtwinS u2.abs).length O] ?_
 refine (ggive_fun (⟨false, []⟩ : BInt) u2.neg (gtwinS u2.abs) d none 0 N O _ _ _ _ _ _ (SlR.nil _ _) x P P.fz).mono ?_; rintro _ aP ⟨k, l, z, rfl, m, Q, hm⟩; refine ⟨_, rfl, ?_⟩; intro b6 aQ; have aR := hm; clear hm P aK
 replace hs4 := hs4.mono m
 replace hs7 := hs7.mono m
 replace hs11 := hs11.mono m
 replace hs15 := hs15.mono m
 replace i := i.mono m
 replace j := j.mono m
 replace p := p.mono m
 replace x := x.mono m
 replace f := Fz.le.trans f m
 have A : Mem B [] w0 Z0 ((.row d [.bool (ggive (⟨false, []⟩ : BInt) u2.neg (gtwinS u2.abs)).neg, .slice k (ggive (⟨false, []⟩ : BInt) u2.neg (gtwinS u2.abs)).abs.length l] 39) :: (.row c [.bool (ggive (⟨false, []⟩ : BInt) u1.neg (gtwinS u1.abs)).neg, .slice g (ggive (⟨false, []⟩ : BInt) u1.neg (gtwinS u1.abs)).abs.length h] 39) :: (.row b1 (e41Ne u0 ao2 cap3 ao5 cap6) 41) :: (.row b8 [.bool u1.neg, .slice ao9 u1.abs.length cap10] 39) :: (.row b12 [.bool u2.neg, .slice ao13 u2.abs.length cap14] 39) :: Rr) z aP := aR; clear aR
 refine nl (qnI (aN _ _ (A.cst p [4]) ?_)); clear aN bC
 refine cS aQ 1 [] [] [(4, pt d 0)] ?_; intro b7 aS; clear aQ
 refine nS (aG _ _ ?_); clear aG bw
 refine thn ?_
 refine wp_ret ?_
 refine ra1 aS (pt d 0) ?_
 refine ⟨_, rfl, ?_⟩; intro b9 aT; clear aB aS
 refine bt aT A 2 [] [] [(7, pt c 0), (8, pt d 0)] ?_; intro ca aU; clear aT
 have R : Mem B [] w0 Z0 ((.row d [.bool (ggive (⟨false, []⟩ : BInt) u2.neg (gtwinS u2.abs)).neg, .slice k (ggive (⟨false, []⟩ : BInt) u2.neg (gtwinS u2.abs)).abs.length l] 39) :: (.row c [.bool (ggive (⟨false, []⟩ : BInt) u1.neg (gtwinS u1.abs)).neg, .slice g (ggive (⟨false, []⟩ : BInt) u1.neg (gtwinS u1.abs)).abs.length h] 39) :: (.row b1 (e41Ne u0 ao2 cap3 ao5 cap6) 41) :: (.row b8 [.bool u1.neg, .slice ao9 u1.abs.length cap10] 39) :: (.row b12 [.bool u2.neg, .slice ao13 u2.abs.length cap14] 39) :: Rr) z aP := A; clear A
 refine nlH (ad _ _ ?_); clear ad bh
 refine sqH ?_; intro bE aV
 refine bt aU R 6 [1] [] [(28, .agg #[.bool (ggive (⟨false, []⟩ : BInt) u1.neg (gtwinS u1.abs)).neg, .slice g (ggive (⟨false, []⟩ : BInt) u1.neg (gtwinS u1.abs)).abs.length h]), (30, pt b1 0)] ?_; intro cb S; clear aU
 refine sx S R 2 [.bool (ggive (⟨false, []⟩ : BInt) u1.neg (gtwinS u1.abs)).neg, .slice g (ggive (⟨false, []⟩ : BInt) u1.neg (gtwinS u1.abs)).abs.length h, .bool u0.b.neg, .slice ao5 u0.b.abs.length cap6] 0 ?_; intro bF aW; clear R
 have T : Mem B [] w0 Z0 ((.row d [.bool (ggive (⟨false, []⟩ : BInt) u2.neg (gtwinS u2.abs)).neg, .slice k (ggive (⟨false, []⟩ : BInt) u2.neg (gtwinS u2.abs)).abs.length l] 39) :: (.row c [.bool (ggive (⟨false, []⟩ : BInt) u1.neg (gtwinS u1.abs)).neg, .slice g (ggive (⟨false, []⟩ : BInt) u1.neg (gtwinS u1.abs)).abs.length h] 39) :: (.row b1 [.bool (ggive (⟨false, []⟩ : BInt) u1.neg (gtwinS u1.abs)).neg, .slice g (ggive (⟨false, []⟩ : BInt) u1.neg (gtwinS u1.abs)).abs.length h, .bool u0.b.neg, .slice ao5 u0.b.abs.length cap6] 41) :: (.row b8 [.bool u1.neg, .slice ao9 u1.abs.length cap10] 39) :: (.row b12 [.bool u2.neg, .slice ao13 u2.abs.length cap14] 39) :: Rr) z bF := aW; clear aW
 refine nlH (aV _ _ ?_); clear aV bE
 refine sqH ?_; intro bG aX
 refine bt S T 6 [0] [] [(34, .agg #[.bool (ggive (⟨false, []⟩ : BInt) u2.neg (gtwinS u2.abs)).neg, .slice k (ggive (⟨false, []⟩ : BInt) u2.neg (gtwinS u2.abs)).abs.length l]), (36, pt b1 2)] ?_; intro cc U; clear S
 refine sx U T 2 [.bool (ggive (⟨false, []⟩ : BInt) u1.neg (gtwinS u1.abs)).neg, .slice g (ggive (⟨false, []⟩ : BInt) u1.neg (gtwinS u1.abs)).abs.length h, .bool (ggive (⟨false, []⟩ : BInt) u2.neg (gtwinS u2.abs)).neg, .slice k (ggive (⟨false, []⟩ : BInt) u2.neg (gtwinS u2.abs)).abs.length l] 2 ?_; intro bH aY; clear T
 have V : Mem B [] w0 Z0 ((.row d [.bool (ggive (⟨false, []⟩ : BInt) u2.neg (gtwinS u2.abs)).neg, .slice k (ggive (⟨false, []⟩ : BInt) u2.neg (gtwinS u2.abs)).abs.length l] 39) :: (.row c [.bool (ggive (⟨false, []⟩ : BInt) u1.neg (gtwinS u1.abs)).neg, .slice g (ggive (⟨false, []⟩ : BInt) u1.neg (gtwinS u1.abs)).abs.length h] 39) :: (.row b1 [.bool (ggive (⟨false, []⟩ : BInt) u1.neg (gtwinS u1.abs)).neg, .slice g (ggive (⟨false, []⟩ : BInt) u1.neg (gtwinS u1.abs)).abs.length h, .bool (ggive (⟨false, []⟩ : BInt) u2.neg (gtwinS u2.abs)).neg, .slice k (ggive (⟨false, []⟩ : BInt) u2.neg (gtwinS u2.abs)).abs.length l] 41) :: (.row b8 [.bool u1.neg, .slice ao9 u1.abs.length cap10] 39) :: (.row b12 [.bool u2.neg, .slice ao13 u2.abs.length cap14] 39) :: Rr) z bH := aY; clear aY
 refine nlH (aX _ _ ?_); clear aX bG
 refine sqH ?_; intro bI aZ
 refine s1 U 37 (pt b1 0) ?_; intro cd a1; clear U
 obtain ⟨bJ, a2⟩ := bA
 refine ck a1 55 #[pt b1 0] ?_
 obtain ⟨y, bK, a3⟩ := hxq a2; clear a2
 have W := rnorm_fun (⟨(ggive (⟨false, []⟩ : BInt) u1.neg (gtwinS u1.abs)), (ggive (⟨false, []⟩ : BInt) u2.neg (gtwinS u2.abs))⟩ : BRat) bJ b1 g h k l _ _ _ _ _ _ j Q (V.perm (pk 2 rfl)) V.fz; rw [bK] at W; refine W.mono ?_; clear W; rintro _ bL ⟨a4, a5, a6, a7, a8, rfl, n, a9, ba, hm⟩; refine ⟨_, rfl, ?_⟩; intro ce bb; have bc := hm; clear hm V a1
 replace hs4 := hs4.mono n
 replace hs7 := hs7.mono n
 replace hs11 := hs11.mono n
 replace hs15 := hs15.mono n
 replace i := i.mono n
 replace j := j.mono n
 replace x := x.mono n
 replace Q := Q.mono n
 replace f := Fz.le.trans f n
 have bM : Mem B [] w0 Z0 ((.row b1 (e41Ne y a4 a5 a6 a7) 41) :: (.row d [.bool (ggive (⟨false, []⟩ : BInt) u2.neg (gtwinS u2.abs)).neg, .slice k (ggive (⟨false, []⟩ : BInt) u2.neg (gtwinS u2.abs)).abs.length l] 39) :: (.row c [.bool (ggive (⟨false, []⟩ : BInt) u1.neg (gtwinS u1.abs)).neg, .slice g (ggive (⟨false, []⟩ : BInt) u1.neg (gtwinS u1.abs)).abs.length h] 39) :: (.row b8 [.bool u1.neg, .slice ao9 u1.abs.length cap10] 39) :: (.row b12 [.bool u2.neg, .slice ao13 u2.abs.length cap14] 39) :: Rr) a8 bL := bc; clear bc
 have bd := a3 (a9.small); clear a3
 have bN := bd (ba.small); clear bd
 refine s1 bb 6 (pt b1 0) ?_; intro cf bO; clear bb
 refine nlH (aZ _ _ ?_); clear aZ bI
 refine wp_ret ?_
 refine ra1 bO (pt b1 0) ?_
 exact ⟨(y, u1, u2), a4, a5, a6, a7, ao9, cap10, ao13, cap14, a8, rfl, bN, f, a9, ba, hs11, hs15, bM.keep (List.Sublist.cons_cons _ (List.Sublist.cons _ (List.Sublist.cons _ (List.Sublist.cons_cons _ (List.Sublist.cons_cons _ (List.Sublist.refl _))))))⟩

end Go.Proofs.Ytdndfbamhnchfaa
set_option linter.unusedVariables false
set_option linter.unusedSimpArgs false
set_option maxRecDepth 100000
set_option maxHeartbeats 0
namespace Go.Proofs.Ytdndfbamhnchfaa
open Go.Sy Go.RowKit
abbrev e41Nf (X : BRat) (A0 : Option Addr) (C0 : Nat) (A1 : Option Addr) (C1 : Nat) : List Value := [.bool X.a.neg, .slice A0 X.a.abs.length C0, .bool X.b.neg, .slice A1 X.b.abs.length C1]
theorem rsf_fun (u0 : BRat) (u1 : BInt) (u2 : BInt) (hpre : bk u1 ∧ bk u2 ∧ iv u2 ≠ 0) (b1 : Nat) (ao2 : Option Addr) (cap3 : Nat) (ao5 : Option Addr) (cap6 : Nat) (b8 : Nat) (ao9 : Option Addr) (cap10 : Nat) (b12 : Nat) (ao13 : Option Addr) (cap14 : Nat) (B : Nat) (w0 : World) (Z0 : Fz) (Rr : List Res) (Z : Fz) (w : World) (hs4 : SlR (tyInt .u32) Z ao2 cap3 u0.a.abs) (hs7 : SlR (tyInt .u32) Z ao5 cap6 u0.b.abs) (hs11 : SlR (tyInt .u32) Z ao9 cap10 u1.abs) (hs15 : SlR (tyInt .u32) Z ao13 cap14 u2.abs) (hM0 : Mem B [] w0 Z0 ((.row b1 [.bool u0.a.neg, .slice ao2 u0.a.abs.length cap3, .bool u0.b.neg, .slice ao5 u0.b.abs.length cap6] 41) :: (.row b8 [.bool u1.neg, .slice ao9 u1.abs.length cap10] 39) :: (.row b12 [.bool u2.neg, .slice ao13 u2.abs.length cap14] 39) :: Rr) Z w) (hZ : Z.on w) : Calls Try.prog 31 #[pt b1 0, pt b8 0, pt b12 0] w fun e w' => ∃ (ao1001 : Option Addr) (cap1002 : Nat) (ao1004 : Option Addr) (cap1005 : Nat) (ao1007 : Option Addr) (cap1008 : Nat) (ao1010 : Option Addr) (cap1011 : Nat) (Z' : Fz), e = .returned (pt b1 0) ∧ Fz.le Z Z' ∧ SlR (tyInt .u32) Z' ao1001 cap1002 (rsfS u0 u1 u2).1.a.abs ∧ SlR (tyInt .u32) Z' ao1004 cap1005 (rsfS u0 u1 u2).1.b.abs ∧ SlR (tyInt .u32) Z' ao1007 cap1008 (rsfS u0 u1 u2).2.1.abs ∧ SlR (tyInt .u32) Z' ao1010 cap1011 (rsfS u0 u1 u2).2.2.abs ∧ Mem B [] w0 Z0 ((.row b1 [.bool (rsfS u0 u1 u2).1.a.neg, .slice ao1001 (rsfS u0 u1 u2).1.a.abs.length cap1002, .bool (rsfS u0 u1 u2).1.b.neg, .slice ao1004 (rsfS u0 u1 u2).1.b.abs.length cap1005] 41) :: (.row b8 [.bool (rsfS u0 u1 u2).2.1.neg, .slice ao1007 (rsfS u0 u1 u2).2.1.abs.length cap1008] 39) :: (.row b12 [.bool (rsfS u0 u1 u2).2.2.neg, .slice ao1010 (rsfS u0 u1 u2).2.2.abs.length cap1011] 39) :: Rr) Z' w' :=
  (rsf_walk u0 u1 u2 b1 ao2 cap3 ao5 cap6 b8 ao9 cap10 b12 ao13 cap14 B w0 Z0 Rr Z w hs4 hs7 hs11 hs15 hM0 hZ (rsf_ok u0 u1 u2 hpre)).mono fun _ _ ⟨r, h0, h1, h2, h3, h4, h5, h6, h7, h8, he, hk, f0, f1, f2, f3, f4, hm⟩ => by subst hk; exact ⟨h0, h1, h2, h3, h4, h5, h6, h7, h8, he, f0, f1, f2, f3, f4, hm⟩

theorem rsf64_walk (u0 : BRat) (u1 : Int) (u2 : Int) (b1 : Nat) (ao2 : Option Addr) (cap3 : Nat) (ao5 : Option Addr) (cap6 : Nat) (B : Nat) (w0 : World) (Z0 : Fz) (Rr : List Res) (Z : Fz) (w : World) (hs4 : SlR (tyInt .u32) Z ao2 cap3 u0.a.abs) (hs7 : SlR (tyInt .u32) Z ao5 cap6 u0.b.abs) (hM0 : Mem B [] w0 Z0 ((.row b1 [.bool u0.a.neg, .slice ao2 u0.a.abs.length cap3, .bool u0.b.neg, .slice ao5 u0.b.abs.length cap6] 41) :: Rr) Z w) (hZ : Z.on w) {K : BRat → Prop} (hp : rsf64_vc u0 u1 u2 K) : Calls Try.prog 11 #[pt b1 0, i6 u1, i6 u2] w fun e w' => ∃ (r : BRat) (ao1001 : Option Addr) (cap1002 : Nat) (ao1004 : Option Addr) (cap1005 : Nat) (Z' : Fz), e = .returned (pt b1 0) ∧ K r ∧ Fz.le Z Z' ∧ SlR (tyInt .u32) Z' ao1001 cap1002 r.a.abs ∧ SlR (tyInt .u32) Z' ao1004 cap1005 r.b.abs ∧ Mem B [] w0 Z0 ((.row b1 [.bool r.a.neg, .slice ao1001 r.a.abs.length cap1002, .bool r.b.neg, .slice ao1004 r.b.abs.length cap1005] 41) :: Rr) Z' w' := by
 refine enter0 Try.func11 rfl rfl (by kernel_rfl) ?_; intro a0 s; have d := Fz.le.refl Z
 have t := hp (hs4.small); clear hp
 have V := t (hs7.small); clear t
 refine sqB s hM0 [] [] [] ?_; intro au u; clear s
 refine sqH ?_; intro W v
 refine bt u hM0 2 [] [] [(7, pt b1 0), (8, i6 u1)] ?_; intro av x; clear u
 obtain ⟨X, Y⟩ := V
 refine ck x 32 #[i6 u1] ?_
 refine (gnew_fun u1 X _ _ hM0.fz).mono ?_; rintro _ aa ⟨f, k, l, ab, rfl, g, hm⟩; refine ⟨_, rfl, ?_⟩; intro aw y; have z := hM0.callZ hm; have m := hm.ext.le; clear hm hM0 x
 replace hs4 := hs4.mono m
 replace hs7 := hs7.mono m
 replace d := Fz.le.trans d m
 have n : Mem B [] w0 Z0 ((.row f [.bool (bz u1).neg, .slice k (bz u1).abs.length l] 39) :: (.row b1 (e41Nf u0 ao2 cap3 ao5 cap6) 41) :: Rr) ab aa := z; clear z
 refine s1 y 10 (i6 u2) ?_; intro ax A; clear y
 obtain ⟨ac, ad⟩ := Y
 refine ck A 32 #[i6 u2] ?_
 refine (gnew_fun u2 ac _ _ n.fz).mono ?_; rintro _ ae ⟨i, C, D, af, rfl, o, hm⟩; refine ⟨_, rfl, ?_⟩; intro ay E; have F := n.callZ hm; have j := hm.ext.le; clear hm n A
 replace hs4 := hs4.mono j
 replace hs7 := hs7.mono j
 replace g := g.mono j
 replace d := Fz.le.trans d j
 have p : Mem B [] w0 Z0 ((.row i [.bool (bz u2).neg, .slice C (bz u2).abs.length D] 39) :: (.row f [.bool (bz u1).neg, .slice k (bz u1).abs.length l] 39) :: (.row b1 (e41Nf u0 ao2 cap3 ao5 cap6) 41) :: Rr) af ae := F; clear F
 obtain ⟨ag, G⟩ := ad
 refine ck E 31 #[pt b1 0, pt f 0, pt i 0] ?_
 obtain ⟨c, ah, H⟩ := hxq G; clear G
 have q := rsf_fun u0 (bz u1) (bz u2) ag b1 ao2 cap3 ao5 cap6 f k l i C D _ _ _ _ _ _ hs4 hs7 g o (p.perm ((pk 2 rfl).trans (((pk 1 rfl).trans ((List.Perm.refl _).cons _)).cons _))) p.fz; rw [ah] at q; refine q.mono ?_; clear q; rintro _ ai ⟨I, J, L, M, aj, ak, al, am, N, rfl, h, O, P, an, ao, hm⟩; refine ⟨_, rfl, ?_⟩; intro az Q; have R := hm; clear hm p E
 replace hs4 := hs4.mono h
 replace hs7 := hs7.mono h
 replace g := g.mono h
 replace o := o.mono h
 replace d := Fz.le.trans d h
 have ap : Mem B [] w0 Z0 ((.row b1 (e41Nf c.1 I J L M) 41) :: (.row f [.bool c.2.1.neg, .slice aj c.2.1.abs.length ak] 39) :: (.row i [.bool c.2.2.neg, .slice al c.2.2.abs.length am] 39) :: Rr) N ai := R; clear R
 have S := H (O.small); clear H
 have T := S (P.small); clear S
 have U := T (an.small); clear T
 have aq := U (ao.small); clear U
 refine s1 Q 6 (pt b1 0) ?_; intro aA ar; clear Q
 refine nlH (v _ _ ?_); clear v W
 refine wp_ret ?_
 refine ra1 ar (pt b1 0) ?_
 exact ⟨c.1, I, J, L, M, N, rfl, aq, d, O, P, ap.keep (List.Sublist.cons_cons _ (List.Sublist.cons _ (List.Sublist.cons _ (List.Sublist.refl _))))⟩

theorem rcmp_walk (u0 : BRat) (u1 : BRat) (b1 : Nat) (ao2 : Option Addr) (cap3 : Nat) (ao5 : Option Addr) (cap6 : Nat) (b8 : Nat) (ao9 : Option Addr) (cap10 : Nat) (ao12 : Option Addr) (cap13 : Nat) (B : Nat) (w0 : World) (Z0 : Fz) (Rr : List Res) (Z : Fz) (w : World) (hs4 : SlR (tyInt .u32) Z ao2 cap3 u0.a.abs) (hs7 : SlR (tyInt .u32) Z ao5 cap6 u0.b.abs) (hs11 : SlR (tyInt .u32) Z ao9 cap10 u1.a.abs) (hs14 : SlR (tyInt .u32) Z ao12 cap13 u1.b.abs) (hM0 : Mem B [] w0 Z0 ((.row b1 [.bool u0.a.neg, .slice ao2 u0.a.abs.length cap3, .bool u0.b.neg, .slice ao5 u0.b.abs.length cap6] 41) :: (.row b8 [.bool u1.a.neg, .slice ao9 u1.a.abs.length cap10, .bool u1.b.neg, .slice ao12 u1.b.abs.length cap13] 41) :: Rr) Z w) (hZ : Z.on w) {K : (Int × BRat × BRat) → Prop} (hp : rcmp_vc u0 u1 K) : Calls Try.prog 12 #[pt b1 0, pt b8 0] w fun e w' => ∃ (r : Int × BRat × BRat) (ao1001 : Option Addr) (cap1002 : Nat) (ao1004 : Option Addr) (cap1005 : Nat) (ao1007 : Option Addr) (cap1008 : Nat) (ao1010 : Option Addr) (cap1011 : Nat) (Z' : Fz), e = .returned (i6 r.1) ∧ K r ∧ Fz.le Z Z' ∧ SlR (tyInt .u32) Z' ao1001 cap1002 r.2.1.a.abs ∧ SlR (tyInt .u32) Z' ao1004 cap1005 r.2.1.b.abs ∧ SlR (tyInt .u32) Z' ao1007 cap1008 r.2.2.a.abs ∧ SlR (tyInt .u32) Z' ao1010 cap1011 r.2.2.b.abs ∧ Mem B [] w0 Z0 ((.row b1 [.bool r.2.1.a.neg, .slice ao1001 r.2.1.a.abs.length cap1002, .bool r.2.1.b.neg, .slice ao1004 r.2.1.b.abs.length cap1005] 41) :: (.row b8 [.bool r.2.2.a.neg, .slice ao1007 r.2.2.a.abs.length cap1008, .bool r.2.2.b.neg, .slice ao1010 r.2.2.b.abs.length cap1011] 41) :: Rr) Z' w' := by
 refine enter0 Try.func12 rfl rfl (by kernel_rfl) ?_; intro a0 G; have g := Fz.le.refl Z
 have H := hp (hs4.small); clear hp
 have I := H (hs7.small); clear H
 have J := I (hs11.small); clear I
 have aN := J (hs14.small); clear J
 refine sqB G hM0 [] [] [] ?_; intro bh L; clear G
 refine wp_seq ?_
 refine sqH ?_; intro aO M
 refine s1 L 5 (pt b1 0) ?_; intro bi N; clear L
 obtain ⟨aP, O⟩ := aN
 refine ck N 33 #[pt b1 0] ?_
 obtain ⟨h, aQ, P⟩ := hxq O; clear O
 have f := rden_fun u0 aP b1 ao2 cap3 ao5 cap6 _ _ _ _ _ _ hs4 hs7 hM0 hM0.fz; rw [aQ] at f; refine f.mono ?_; clear f; rintro _ aR ⟨v, x, y, z, aS, rfl, o, j, k, hm⟩; refine ⟨_, rfl, ?_⟩; intro bj Q; have R := hm; clear hm hM0 N
 replace hs4 := hs4.mono o
 replace hs7 := hs7.mono o
 replace hs11 := hs11.mono o
 replace hs14 := hs14.mono o
 replace g := Fz.le.trans g o
 have A : Mem B [] w0 Z0 ((.row b1 (e41Nf h v x y z) 41) :: (.row b8 (e41Nf u1 ao9 cap10 ao12 cap13) 41) :: Rr) aS aR := R; clear R
 have S := P (j.small); clear P
 have aT := S (k.small); clear S
 refine s1 Q 7 (pt b8 0) ?_; intro bk T; clear Q
 obtain ⟨aU, U⟩ := aT
 refine ck T 33 #[pt b8 0] ?_
 obtain ⟨p, aV, V⟩ := hxq U; clear U
 have f := rden_fun u1 aU b8 ao9 cap10 ao12 cap13 _ _ _ _ _ _ hs11 hs14 (A.perm (pk 1 rfl)) A.fz; rw [aV] at f; refine f.mono ?_; clear f; rintro _ aW ⟨W, X, Y, aa, aX, rfl, l, m, n, hm⟩; refine ⟨_, rfl, ?_⟩; intro bl ab; have ac := hm; clear hm A T
 replace hs4 := hs4.mono l
 replace hs7 := hs7.mono l
 replace hs11 := hs11.mono l
 replace hs14 := hs14.mono l
 replace j := j.mono l
 replace k := k.mono l
 replace g := Fz.le.trans g l
 have C : Mem B [] w0 Z0 ((.row b8 (e41Nf p W X Y aa) 41) :: (.row b1 (e41Nf h v x y z) 41) :: Rr) aX aW := ac; clear ac
 have ad := V (m.small); clear V
 have aY := ad (n.small); clear ad
 obtain ⟨aZ, ae⟩ := aY
 refine ck ab 34 #[pt b1 2, pt b8 2] ?_
 obtain ⟨c, a1, af⟩ := hxq ae; clear ae
 have f := gcmpBB_fun h p aZ b1 v x y z b8 W X Y aa _ _ _ _ _ _ j k m n (C.perm ((pk 1 rfl).trans ((List.Perm.refl _).cons _))) C.fz; rw [a1] at f; refine f.mono ?_; clear f; rintro _ a2 ⟨ag, ah, ai, aj, ak, al, am, an, ao, rfl, i, q, s, t, u, hm⟩; refine ⟨_, rfl, ?_⟩; intro bm ap; have aq := hm; clear hm C ab
 replace hs4 := hs4.mono i
 replace hs7 := hs7.mono i
 replace hs11 := hs11.mono i
 replace hs14 := hs14.mono i
 replace j := j.mono i
 replace k := k.mono i
 replace m := m.mono i
 replace n := n.mono i
 replace g := Fz.le.trans g i
 have ar : Mem B [] w0 Z0 ((.row b1 (e41Nf c.2.1 ag ah ai aj) 41) :: (.row b8 (e41Nf c.2.2 ak al am an) 41) :: Rr) ao a2 := aq; clear aq
 have au := af (q.small); clear af
 have av := au (s.small); clear au
 have aw := av (t.small); clear av
 have a3 := aw (u.small); clear aw
 refine s1 ap 10 (.bool (c.1 == 0)) ?_; intro a4 D; clear ap
 refine nlH (M _ _ ?_); clear M aO
 obtain ⟨a5, a6⟩ := a3
 refine cy D a5 ?_
 have ax : Fr 33 [] [⟨0, [], pt b1 0⟩, ⟨1, [], pt b8 0⟩] a4 := D.region (by kernel_rfl) (by kernel_rfl); clear D
 refine wp_seq (rgS mixed ar [(0, true), (1, true), (2, true), (3, true), (4, true), (5, true), (6, false), (7, true)] [] [] [] ?_)
 intro a7 ay bn E; clear ar
 have F := Fz.le.refl ao
 refine cS ax 6 [] [] [(13, pt b1 0), (16, pt b8 0)] ?_; intro bo az; clear ax
 refine eS rfl ?_; intro a8 aA
 obtain ⟨a9, ba⟩ := a6
 refine ck az 34 #[pt b1 0, pt b8 0] ?_
 refine (gcmpAA_fun c.2.1 c.2.2 a9 b1 ag ah ai aj b8 ak al am an _ _ _ _ _ _ q s t u E E.fz).mono ?_; rintro _ bb ⟨aB, aC, aD, aE, aF, aG, aH, aI, aJ, rfl, d, bc, bd, be, bf, hm⟩; refine ⟨_, rfl, ?_⟩; intro bp aK; have aL := hm; clear hm E az
 replace hs4 := hs4.mono d
 replace hs7 := hs7.mono d
 replace hs11 := hs11.mono d
 replace hs14 := hs14.mono d
 replace j := j.mono d
 replace k := k.mono d
 replace m := m.mono d
 replace n := n.mono d
 replace q := q.mono d
 replace s := s.mono d
 replace t := t.mono d
 replace u := u.mono d
 replace F := F.mono d
 replace g := Fz.le.trans g d
 have aM : Mem B [] w0 Z0 ((.row b1 (e41Nf ((gcmpAAS c.2.1 c.2.2).2.1) aB aC aD aE) 41) :: (.row b8 (e41Nf ((gcmpAAS c.2.1 c.2.2).2.2) aF aG aH aI) 41) :: Rr) aJ bb := aL; clear aL
 refine nl (qnI (aA _ _ (aM.cst F []) ?_)); clear aA a8
 refine cS aK 1 [] [] [(4, i6 (gcmpAAS c.2.1 c.2.2).1)] ?_; intro bq bg; clear aK
 refine nS (ay _ _ ?_); clear ay a7
 refine thn ?_
 refine wp_ret ?_
 refine thr ?_
 refine ra1 bg (i6 (gcmpAAS c.2.1 c.2.2).1) ?_
 exact ⟨((gcmpAAS c.2.1 c.2.2).1, (gcmpAAS c.2.1 c.2.2).2.1, (gcmpAAS c.2.1 c.2.2).2.2), aB, aC, aD, aE, aF, aG, aH, aI, aJ, rfl, ba, g, bc, bd, be, bf, aM.keep (List.Sublist.cons_cons _ (List.Sublist.cons_cons _ (List.Sublist.refl _)))⟩

end Go.Proofs.Ytdndfbamhnchfaa
set_option linter.unusedVariables false
set_option linter.unusedSimpArgs false
set_option maxRecDepth 100000
set_option maxHeartbeats 0
namespace Go.Proofs.Ytdndfbamhnchfaa
open Go.Sy Go.RowKit
abbrev e23Nl (X : Signal) : List Value := [str X.Name, i6 X.Start, i6 X.Size, .bool X.Back, .bool X.Signed, i6 X.Mul, i6 X.Div, i6 X.Add, i6 X.Key]
theorem rsf64_fun (u0 : BRat) (u1 : Int) (u2 : Int) (hpre : u2 ≠ 0 ∧ (-9223372036854775808 ≤ u1 ∧ u1 ≤ 9223372036854775807) ∧ -9223372036854775808 ≤ u2 ∧ u2 ≤ 9223372036854775807) (b1 : Nat) (ao2 : Option Addr) (cap3 : Nat) (ao5 : Option Addr) (cap6 : Nat) (B : Nat) (w0 : World) (Z0 : Fz) (Rr : List Res) (Z : Fz) (w : World) (hs4 : SlR (tyInt .u32) Z ao2 cap3 u0.a.abs) (hs7 : SlR (tyInt .u32) Z ao5 cap6 u0.b.abs) (hM0 : Mem B [] w0 Z0 ((.row b1 [.bool u0.a.neg, .slice ao2 u0.a.abs.length cap3, .bool u0.b.neg, .slice ao5 u0.b.abs.length cap6] 41) :: Rr) Z w) (hZ : Z.on w) : Calls Try.prog 11 #[pt b1 0, i6 u1, i6 u2] w fun e w' => ∃ (ao1001 : Option Addr) (cap1002 : Nat) (ao1004 : Option Addr) (cap1005 : Nat) (Z' : Fz), e = .returned (pt b1 0) ∧ Fz.le Z Z' ∧ SlR (tyInt .u32) Z' ao1001 cap1002 (rsf64S u0 u1 u2).a.abs ∧ SlR (tyInt .u32) Z' ao1004 cap1005 (rsf64S u0 u1 u2).b.abs ∧ Mem B [] w0 Z0 ((.row b1 [.bool (rsf64S u0 u1 u2).a.neg, .slice ao1001 (rsf64S u0 u1 u2).a.abs.length cap1002, .bool (rsf64S u0 u1 u2).b.neg, .slice ao1004 (rsf64S u0 u1 u2).b.abs.length cap1005] 41) :: Rr) Z' w' :=
  (rsf64_walk u0 u1 u2 b1 ao2 cap3 ao5 cap6 B w0 Z0 Rr Z w hs4 hs7 hM0 hZ (rsf64_ok u0 u1 u2 hpre)).mono fun _ _ ⟨r, h0, h1, h2, h3, h4, he, hk, f0, f1, f2, hm⟩ => by subst hk; exact ⟨h0, h1, h2, h3, h4, he, f0, f1, f2, hm⟩

theorem rcmp_fun (u0 : BRat) (u1 : BRat) (hpre : rk u0 ∧ u0 = u1) (b1 : Nat) (ao2 : Option Addr) (cap3 : Nat) (ao5 : Option Addr) (cap6 : Nat) (b8 : Nat) (ao9 : Option Addr) (cap10 : Nat) (ao12 : Option Addr) (cap13 : Nat) (B : Nat) (w0 : World) (Z0 : Fz) (Rr : List Res) (Z : Fz) (w : World) (hs4 : SlR (tyInt .u32) Z ao2 cap3 u0.a.abs) (hs7 : SlR (tyInt .u32) Z ao5 cap6 u0.b.abs) (hs11 : SlR (tyInt .u32) Z ao9 cap10 u1.a.abs) (hs14 : SlR (tyInt .u32) Z ao12 cap13 u1.b.abs) (hM0 : Mem B [] w0 Z0 ((.row b1 [.bool u0.a.neg, .slice ao2 u0.a.abs.length cap3, .bool u0.b.neg, .slice ao5 u0.b.abs.length cap6] 41) :: (.row b8 [.bool u1.a.neg, .slice ao9 u1.a.abs.length cap10, .bool u1.b.neg, .slice ao12 u1.b.abs.length cap13] 41) :: Rr) Z w) (hZ : Z.on w) : Calls Try.prog 12 #[pt b1 0, pt b8 0] w fun e w' => ∃ (ao1001 : Option Addr) (cap1002 : Nat) (ao1004 : Option Addr) (cap1005 : Nat) (ao1007 : Option Addr) (cap1008 : Nat) (ao1010 : Option Addr) (cap1011 : Nat) (Z' : Fz), e = .returned (i6 (rcmpS u0 u1).1) ∧ Fz.le Z Z' ∧ SlR (tyInt .u32) Z' ao1001 cap1002 (rcmpS u0 u1).2.1.a.abs ∧ SlR (tyInt .u32) Z' ao1004 cap1005 (rcmpS u0 u1).2.1.b.abs ∧ SlR (tyInt .u32) Z' ao1007 cap1008 (rcmpS u0 u1).2.2.a.abs ∧ SlR (tyInt .u32) Z' ao1010 cap1011 (rcmpS u0 u1).2.2.b.abs ∧ Mem B [] w0 Z0 ((.row b1 [.bool (rcmpS u0 u1).2.1.a.neg, .slice ao1001 (rcmpS u0 u1).2.1.a.abs.length cap1002, .bool (rcmpS u0 u1).2.1.b.neg, .slice ao1004 (rcmpS u0 u1).2.1.b.abs.length cap1005] 41) :: (.row b8 [.bool (rcmpS u0 u1).2.2.a.neg, .slice ao1007 (rcmpS u0 u1).2.2.a.abs.length cap1008, .bool (rcmpS u0 u1).2.2.b.neg, .slice ao1010 (rcmpS u0 u1).2.2.b.abs.length cap1011] 41) :: Rr) Z' w' :=
  (rcmp_walk u0 u1 b1 ao2 cap3 ao5 cap6 b8 ao9 cap10 ao12 cap13 B w0 Z0 Rr Z w hs4 hs7 hs11 hs14 hM0 hZ (rcmp_ok u0 u1 hpre)).mono fun _ _ ⟨r, h0, h1, h2, h3, h4, h5, h6, h7, h8, he, hk, f0, f1, f2, f3, f4, hm⟩ => by subst hk; exact ⟨h0, h1, h2, h3, h4, h5, h6, h7, h8, he, f0, f1, f2, f3, f4, hm⟩

theorem splc_walk (u0 : Signal) (u1 : Int)  (Z : Fz) (w : World)  (hZ : Z.on w) {K : ((List Int) × Int) → Prop} (hp : splc_vc u0 u1 K) : Calls Try.prog 10 #[.agg #[str u0.Name, i6 u0.Start, i6 u0.Size, .bool u0.Back, .bool u0.Signed, i6 u0.Mul, i6 u0.Div, i6 u0.Add, i6 u0.Key], i6 u1] w fun e w' => ∃ (r : (List Int) × Int) (ao1001 : Option Addr) (cap1002 : Nat) (Z' : Fz), e = .returned (.tuple #[.slice ao1001 r.1.length cap1002, i6 r.2]) ∧ K r ∧ Mem w.heap.size [] w Z [.own t6 3 ao1001 cap1002 r.1] Z' w' := by
 refine enter0 Try.func10 rfl rfl (by kernel_rfl) ?_; intro Q i; have j := Mem.start w Z hZ; have k := Fz.le.refl Z
 refine sqH ?_; intro C l
 refine nw i j pb (e23Nl u0) 23 ?_; intro m R S n b; clear i j
 refine bt n b 2 [] [] [] ?_; intro T o; clear n
 refine nlH (l _ _ ?_); clear l C
 refine wp_seq ?_
 refine sqH ?_; intro D p
 refine bt o b 2 [0] [] [(7, .agg (e23Nl u0).toArray), (8, i6 u1)] ?_; intro U q; clear o
 refine fc q b (scheck_fun u0 u1 _ _ b.fz) ?_; intro V E s a; clear q b
 refine s1 s 6 (i6 (checkS u0 u1)) ?_; intro W u; clear s
 refine nlH (p _ _ ?_); clear p D
 refine sqB u a [] [] [(11, .bool ((checkS u0 u1) != 0))] ?_; intro X c; clear u
 refine cd c (t := (checkS u0 u1) != 0) (by kernel_rfl) (fun g => ?_) (fun g => ?_)
 · -- yes
  have F := hp.1 g; clear hp
  refine sqB c a [] [] [(4, .slice none 0 0), (5, i6 (checkS u0 u1))] ?_; intro Y G; clear c
  refine wp_ret ?_
  refine thr ?_
  have H : Mem w.heap.size [] w Z [.own t6 3 none 0 ([] : List Int), .row m (e23Nl u0) 23] Z E := a.addNil t6 3 (by decide); clear a
  refine ra2 G (.tuple #[.slice none ([] : List Int).length 0, i6 (checkS u0 u1)]) ?_
  exact ⟨(([] : List Int), (checkS u0 u1)), none, 0, Z, rfl, F, H.keep (List.Sublist.cons_cons _ (List.Sublist.cons _ (List.Sublist.slnil)))⟩
 · -- no
  have I := hp.2 g; clear hp
  refine wp_skip ?_
  refine thn ?_
  refine sqH ?_; intro J v
  refine l2 c a 13 0 0 9 (e23Nl u0) rfl rfl ?_; intro aa x; clear c
  obtain ⟨L, y⟩ := I
  refine ck x 30 #[.agg (e23Nl u0).toArray] ?_
  refine (splaces_fun u0 L _ _ a.fz).mono ?_; rintro _ M ⟨d, f, z, rfl, hm⟩; refine ⟨_, rfl, ?_⟩; intro ab A; have B := a.callZ hm; have N := hm.ext.le; clear hm a x
  replace k := Fz.le.trans k N
  have h : Mem w.heap.size [] w Z [.own t6 3 d f (placesS u0), .row m (e23Nl u0) 23] z M := B; clear B
  have O := y (h.ownSmall 0 rfl); clear y
  refine bt A h 2 [] [] [(4, .slice d (placesS u0).length f), (5, i6 0)] ?_; intro ac P; clear A
  refine nlH (v _ _ ?_); clear v J
  refine wp_ret ?_
  refine ra2 P (.tuple #[.slice d (placesS u0).length f, i6 0]) ?_
  exact ⟨((placesS u0), 0), d, f, z, rfl, O, h.keep (List.Sublist.cons_cons _ (List.Sublist.cons _ (List.Sublist.slnil)))⟩

theorem sindex_walk (u0 : List Int) (u1 : Int) (ao1 : Option Addr) (cap2 : Nat) (Z : Fz) (w : World) (hs3 : SlR t6 Z ao1 cap2 u0) (hZ : Z.on w) {K : Int → Prop} (hp : sindex_vc u0 u1 K) : Calls Try.prog 36 #[.slice ao1 u0.length cap2, i6 u1] w fun e w' => ∃ r : Int, e = .returned (i6 r) ∧ K r ∧ Below w.heap.size w w' := by
 refine enter0 Try.func36 rfl rfl (by kernel_rfl) ?_; intro a0 m; have g := Mem.start w Z hZ; have ad := Fz.le.refl Z
 have G := hp (hs3.small); clear hp
 refine sqB m g [] [] [] ?_; intro a6 n; clear m
 refine wp_seq ?_
 refine sqB n g [] [] [(7, i6 (u0.length : Int)), (8, i6 0)] ?_; intro o p; clear n
 refine wp_block ?_
 have q : Fr 19 [] [⟨0, [], .slice ao1 u0.length cap2⟩, ⟨1, [], i6 u1⟩, ⟨7, [], i6 (u0.length : Int)⟩, ⟨8, [], i6 0⟩] o := p.region (by kernel_rfl) (by kernel_rfl); clear p
 have u : Fr 19 [] [⟨0, [], .slice ao1 u0.length cap2⟩, ⟨1, [], i6 u1⟩, ⟨7, [], i6 (u0.length : Int)⟩, ⟨8, [], i6 0⟩] o := q.region (by kernel_rfl) (by kernel_rfl); clear q
 obtain ⟨H, I, J, L⟩ := G
 refine lp (ι := Int) (fun s => [⟨0, [], .slice ao1 u0.length cap2⟩, ⟨1, [], i6 u1⟩, ⟨7, [], i6 (u0.length : Int)⟩, ⟨8, [], i6 s⟩]) (fun s => []) (fun s => Z) (fun s => H s) (fun s => I s) 0 J (by exact u.region (by kernel_rfl) (by kernel_rfl)) (by exact g) ?_
 rintro a M N O v x
 have y : Fr 19 [] [⟨0, [], .slice ao1 u0.length cap2⟩, ⟨1, [], i6 u1⟩, ⟨7, [], i6 (u0.length : Int)⟩, ⟨8, [], i6 a⟩] N := v; clear v u
 have b : Mem w.heap.size [] w Z [] Z O := x; clear x g
 have h := L a M
 refine sqB y b [] [] [(9, .bool (decide (a < (u0.length : Int))))] ?_; intro ae c; clear y
 refine wp_seq ?_
 refine cd c (t := decide (a < (u0.length : Int))) (by kernel_rfl) (fun j => ?_) (fun j => ?_)
 · -- yes
  have P := h.1 j; clear h
  refine wp_skip ?_
  refine thn ?_
  refine wp_seq ?_
  refine wp_block ?_
  refine sqB c b [] [] [(5, i6 a)] ?_; intro af z; clear c
  refine sqH ?_; intro Q A
  refine bt z b 3 [] [] [(11, i6 u1), (12, .slice ao1 u0.length cap2), (13, i6 a)] ?_; intro ag B; clear z
  obtain ⟨R, C⟩ := P
  refine ix B (T := t6) (xs := u0) hs3 a R (k := .i64) (e := 3) (bytes := 8) (nog rfl _) rfl (by kernel_rfl) rfl (by kernel_rfl) (by kernel_rfl) (by kernel_rfl) ?_; intro ah ai S d aj U V W D; clear B
  have i := C d U; clear C
  obtain rfl : S = ([i6 d] : List Value) := W
  refine z1 D b 15 V 0 (i6 d) rfl ?_; intro ak E; clear D
  refine s1 E 16 (.bool (u1 == d)) ?_; intro al f; clear E
  refine nlH (A _ _ ?_); clear A Q
  refine cd f (t := u1 == d) (by kernel_rfl) (fun l => ?_) (fun l => ?_)
  · -- yes
   have X := i.1 l; clear i
   refine sqB f b [] [] [(4, i6 a)] ?_; intro am Y; clear f
   refine wp_ret ?_
   refine ibr ?_
   refine thr ?_
   refine thr ?_
   refine ibr ?_
   refine thr ?_
   refine ra1 Y (i6 a) ?_
   exact ⟨a, rfl, X, b.below⟩
  · -- no
   have F := i.2 l; clear i
   refine wp_skip ?_
   refine ibn ?_
   refine thn ?_
   refine rgB f b [] [] [(8, i6 (w64 (a + 1)))] ?_; intro an aa; clear f
   refine rd ?_
   exact ⟨w64 (a + 1), F.1, F.2, (aa.region (by kernel_rfl) (by kernel_rfl)).anyβ _ (by kernel_rfl), b.keep (List.Sublist.slnil)⟩
 · -- no
  have ab := h.2 j; clear h
  refine wp_exit ?_
  refine thx ?_
  refine thx ?_
  refine ibx ?_
  refine thn ?_
  refine sqB c b [] [] [(4, i6 (-1))] ?_; intro ao ac; clear c
  refine wp_ret ?_
  refine ra1 ac (i6 (-1)) ?_
  exact ⟨-1, rfl, ab, b.below⟩

theorem scontains_walk (u0 : List Int) (u1 : Int) (ao1 : Option Addr) (cap2 : Nat) (Z : Fz) (w : World) (hs3 : SlR t6 Z ao1 cap2 u0) (hZ : Z.on w) {K : Bool → Prop} (hp : scontains_vc u0 u1 K) : Calls Try.prog 13 #[.slice ao1 u0.length cap2, i6 u1] w fun e w' => ∃ r : Bool, e = .returned (.bool r) ∧ K r ∧ Below w.heap.size w w' := by
 refine enter0 Try.func13 rfl rfl (by kernel_rfl) ?_; intro n c; have a := Mem.start w Z hZ; have o := Fz.le.refl Z
 have j := hp (hs3.small); clear hp
 refine sqB c a [] [] [] ?_; intro p d; clear c
 refine sqH ?_; intro k f
 refine bt d a 2 [] [] [(5, .slice ao1 u0.length cap2), (6, i6 u1)] ?_; intro q g; clear d
 refine ck g 36 #[.slice ao1 u0.length cap2, i6 u1] ?_
 refine (sindex_walk u0 u1 ao1 cap2 _ _ hs3 a.fz j).mono ?_; rintro _ s ⟨b, rfl, l, hb⟩; refine ⟨_, rfl, ?_⟩; intro t h; have i := a.call hb; clear hb a g
 refine bt h i 2 [] [] [(4, .bool (decide (b ≥ 0)))] ?_; intro u m; clear h
 refine nlH (f _ _ ?_); clear f k
 refine wp_ret ?_
 refine ra1 m (.bool (decide (b ≥ 0))) ?_
 exact ⟨decide (b ≥ 0), rfl, l, i.below⟩

end Go.Proofs.Ytdndfbamhnchfaa
