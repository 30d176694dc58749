/- Texts put together (pure ones, or walks made by program). -/
import Derived.Test.YtdndfbamhnchfaaKm0
import Derived.Test.YtdndfbamhnchfaaKm1
import Derived.Test.YtdndfbamhnchfaaKm2
import Derived.Shelf.Lay
import Derived.Ground.NamesProg
import Derived.Shelf.Sort.Plain
import Derived.Shelf.Slices.In.SortNone
namespace Go.Proofs
open Go.Shelf
def Try.lays189_ren : Go.Shelf.Ren := ⟨fun | 189 => 37 | 125 => 61 | 257 => 60 | 128 => 82 | 129 => 83 | 294 => 73 | 295 => 74 | 296 => 75 | 297 => 76 | 298 => 77 | 299 => 78 | 216 => 79 | 300 => 80 | 301 => 81 | 328 => 89 | 329 => 90 | 330 => 91 | 331 => 92 | 332 => 93 | 215 => 62 | 343 => 94 | n => n, fun | 28 => 33 | 3 => 3 | 46 => 106 | 0 => 0 | 51 => 112 | 53 => 115 | 4 => 4 | 183 => 119 | 182 => 118 | 131 => 124 | 5 => 5 | 9 => 9 | 218 => 133 | 222 => 137 | 228 => 139 | 229 => 97 | n => n, fun | n => n⟩
theorem Try.lays189 : Go.Proofs.Lays.n189 Try.prog Try.lays189_ren := {
  mixed := by kernel_rfl
  f125 := Try.func61.trans (congrArg some (by kernel_rfl))
  f128 := Try.func82.trans (congrArg some (by kernel_rfl))
  f129 := Try.func83.trans (congrArg some (by kernel_rfl))
  f189 := Try.func37.trans (congrArg some (by kernel_rfl))
  f215 := Try.func62.trans (congrArg some (by kernel_rfl))
  f216 := Try.func79.trans (congrArg some (by kernel_rfl))
  f257 := Try.func60.trans (congrArg some (by kernel_rfl))
  f294 := Try.func73.trans (congrArg some (by kernel_rfl))
  f295 := Try.func74.trans (congrArg some (by kernel_rfl))
  f296 := Try.func75.trans (congrArg some (by kernel_rfl))
  f297 := Try.func76.trans (congrArg some (by kernel_rfl))
  f298 := Try.func77.trans (congrArg some (by kernel_rfl))
  f299 := Try.func78.trans (congrArg some (by kernel_rfl))
  f300 := Try.func80.trans (congrArg some (by kernel_rfl))
  f301 := Try.func81.trans (congrArg some (by kernel_rfl))
  f328 := Try.func89.trans (congrArg some (by kernel_rfl))
  f329 := Try.func90.trans (congrArg some (by kernel_rfl))
  f330 := Try.func91.trans (congrArg some (by kernel_rfl))
  f331 := Try.func92.trans (congrArg some (by kernel_rfl))
  f332 := Try.func93.trans (congrArg some (by kernel_rfl))
  f343 := Try.func94.trans (congrArg some (by kernel_rfl))
  t0 := Try.underlying0
  a0 := Try.isAgg0
  z0 := Try.sizeOf0
  v0 := Try.zeroValue0
  t3 := Try.underlying3
  a3 := Try.isAgg3
  z3 := Try.sizeOf3
  v3 := Try.zeroValue3
  t4 := Try.underlying4
  a4 := Try.isAgg4
  z4 := Try.sizeOf4
  v4 := Try.zeroValue4
  t5 := Try.underlying5
  a5 := Try.isAgg5
  z5 := Try.sizeOf5
  v5 := Try.zeroValue5
  t9 := Try.underlying9
  a9 := Try.isAgg9
  z9 := Try.sizeOf9
  v9 := Try.zeroValue9
  t28 := Try.underlying33
  a28 := Try.isAgg33
  z28 := Try.sizeOf33
  v28 := Try.zeroValue33
  t46 := Try.underlying106
  a46 := Try.isAgg106
  z46 := Try.sizeOf106
  v46 := Try.zeroValue106
  t51 := Try.underlying112
  a51 := Try.isAgg112
  z51 := Try.sizeOf112
  v51 := Try.zeroValue112
  t53 := Try.underlying115
  a53 := Try.isAgg115
  z53 := Try.sizeOf115
  v53 := Try.zeroValue115
  t131 := Try.underlying124
  a131 := Try.isAgg124
  z131 := Try.sizeOf124
  v131 := Try.zeroValue124
  t182 := Try.underlying118
  a182 := Try.isAgg118
  z182 := Try.sizeOf118
  v182 := Try.zeroValue118
  t183 := Try.underlying119
  a183 := Try.isAgg119
  z183 := Try.sizeOf119
  v183 := Try.zeroValue119
  t218 := Try.underlying133
  a218 := Try.isAgg133
  z218 := Try.sizeOf133
  v218 := Try.zeroValue133
  t222 := Try.underlying137
  a222 := Try.isAgg137
  z222 := Try.sizeOf137
  v222 := Try.zeroValue137
  t228 := Try.underlying139
  a228 := Try.isAgg139
  z228 := Try.sizeOf139
  v228 := Try.zeroValue139
  t229 := Try.underlying97
  a229 := Try.isAgg97
  z229 := Try.sizeOf97
  v229 := Try.zeroValue97 }
end Go.Proofs
set_option linter.unusedVariables false
set_option linter.unusedSimpArgs false
set_option maxRecDepth 100000
set_option maxHeartbeats 0
namespace Go.Proofs.Ytdndfbamhnchfaa
open Go.Sy Go.RowKit
theorem swrite_fun (u0 : Signal) (u1 : List Int) (u2 : Int) (u3 : Int) (hpre : isBytes u1) (ao1 : Option Addr) (cap2 : Nat) (Z : Fz) (w : World) (hs3 : SlR t8 Z ao1 cap2 u1) (hZ : Z.on w) : Calls Try.prog 7 #[.agg #[str u0.Name, i6 u0.Start, i6 u0.Size, .bool u0.Back, .bool u0.Signed, i6 u0.Mul, i6 u0.Div, i6 u0.Add, i6 u0.Key], .slice ao1 u1.length cap2, i6 u2, i6 u3] w fun e w' => ∃ (ao1001 : Option Addr) (cap1002 : Nat) (Z' : Fz), e = .returned (.tuple #[.slice ao1001 (swriteS u0 u1 u2 u3).1.length cap1002, i6 (swriteS u0 u1 u2 u3).2]) ∧ Mem w.heap.size [] w Z [.own t8 5 ao1001 cap1002 (swriteS u0 u1 u2 u3).1] Z' w' :=
  (swrite_walk u0 u1 u2 u3 ao1 cap2 Z w hs3 hZ (swrite_ok u0 u1 u2 u3 hpre)).mono fun _ _ ⟨r, h0, h1, h2, he, hk, hm⟩ => by subst hk; exact ⟨h0, h1, h2, he, hm⟩

theorem sread_fun (u0 : Signal) (u1 : List Int) (hpre : isBytes u1) (ao1 : Option Addr) (cap2 : Nat) (Z : Fz) (w : World) (hs3 : SlR t8 Z ao1 cap2 u1) (hZ : Z.on w) : Calls Try.prog 9 #[.agg #[str u0.Name, i6 u0.Start, i6 u0.Size, .bool u0.Back, .bool u0.Signed, i6 u0.Mul, i6 u0.Div, i6 u0.Add, i6 u0.Key], .slice ao1 u1.length cap2] w fun e w' => e = .returned (.tuple #[i6 (sreadS u0 u1).1, .agg #[str (sreadS u0 u1).2.1.Name, i6 (sreadS u0 u1).2.1.Num, i6 (sreadS u0 u1).2.1.Den], i6 (sreadS u0 u1).2.2]) ∧ Below w.heap.size w w' :=
  (sread_walk u0 u1 ao1 cap2 Z w hs3 hZ (sread_ok u0 u1 hpre)).mono fun _ _ ⟨r, he, hk, hb⟩ => ⟨by subst hk; exact he, hb⟩

open Go Go.Sort
theorem sort_block (w : World) (blk n : Nat) (d : Array Int) (os : Array Obj) (cur : Array Value) (e : TypeId) (fr : Nat × Nat) (h : w.heap[blk]? = some (.cells cur e fr)) : (grow (putRow (Value.int .i64) (Go.Sort.ahead w n) blk 0 d) os).heap[blk]? = some (.cells (putCells (Value.int .i64) 0 d cur) e fr) := by
  have hl := (Array.getElem?_eq_some_iff.1 h).1
  have hl' : blk < (w.heap.modify blk (onCells (putCells (Value.int .i64) 0 d))).size := by rw [Array.size_modify]; exact hl
  show (w.heap.modify blk (onCells (putCells (Value.int .i64) 0 d)) ++ os)[blk]? = _
  rw [Array.getElem?_append, if_pos hl', Array.getElem?_modify, if_pos rfl, h]
  rfl
theorem sort_grown (w : World) (blk n : Nat) (d : Array Int) (os : Array Obj) : w.grownBy (grow (putRow (Value.int .i64) (Go.Sort.ahead w n) blk 0 d) os) (some blk) := by
  refine ⟨rfl, rfl, rfl, ?_, fun k hk hne => ?_⟩
  · show w.heap.size ≤ (w.heap.modify blk _ ++ os).size
    rw [Array.size_append, Array.size_modify]
    omega
  · have hl' : k < (w.heap.modify blk (onCells (putCells (Value.int .i64) 0 d))).size := by rw [Array.size_modify]; exact hk
    show (w.heap.modify blk (onCells (putCells (Value.int .i64) 0 d)) ++ os)[k]? = _
    rw [Array.getElem?_append, if_pos hl', Array.getElem?_modify, if_neg (fun h => hne (by rw [h]))]


theorem sort_cells (d : List Int) (cur : Array Value) (n cap : Nat) (hc : cur.size = cap) (hd : d.length ≤ cap) : ((putCells (Value.int .i64) 0 d.toArray cur).toList.take d.length) = d.map (Value.int .i64) := by
  apply List.ext_getElem?
  intro k
  rw [List.getElem?_take, List.getElem?_map]
  by_cases hk : k < d.length
  · rw [if_pos hk, List.getElem?_eq_getElem hk, Array.getElem?_toList]
    unfold putCells
    rw [Array.getElem?_mapIdx, Array.getElem?_eq_getElem (by omega), Option.map_some, Option.map_some, if_pos ⟨by omega, by simpa using hk⟩]
    congr 1
    simp [hk]
  · rw [if_neg hk, List.getElem?_eq_none (by omega)]
    rfl
theorem sort_mem {B : Nat} {U : List Nat} {w0 : World} {Z0 : Fz} {R : List Res} {Z : Fz} {w : World} (hM : Mem B U w0 Z0 R Z w) (i : Nat) {e : TypeId} {ad : Addr} {cap : Nat} {xs : List Int} (hR : R[i]? = some (.own t6 e (some ad) cap xs)) (n : Nat) (os : Array Obj) (ys : List Int) (hl : ys.length = xs.length) : Mem B U w0 Z0 (R.set i (.own t6 e (some ad) cap ys)) Z (grow (putRow (Value.int .i64) (Go.Sort.ahead w n) ad.block 0 ys.toArray) os) := by
  obtain ⟨a, c, cells, ho, hr⟩ := hM.res _ (List.mem_of_getElem? hR)
  rcases ho.2 with ⟨hv, _⟩ | ⟨g, cap', cur, hv, hb, hg, hn, hc, hs, ht⟩
  · cases hv
  · cases hv
    refine hM.upd hR (sort_grown w _ n _ os) _ ⟨a, by rw [hl]; exact c, ys.map (Value.int .i64), ⟨by simp [tyInt], .inr ⟨g, cap, _, by rw [hl], hb, sort_block w g n _ os cur e _ hg, by rw [hl]; exact hn, hc, ?_, ?_⟩⟩, ?_⟩ (fun b hb => .inl hb)
    · unfold putCells; rw [Array.size_mapIdx]; exact hs
    · have := sort_cells ys cur n (cap * 1) (by simpa [tyInt] using hs) (by omega)
      simpa [tyInt] using this
    · refine ⟨by simp [tyInt], fun j x hx => ?_⟩
      show List.take 1 (List.drop (j * 1) (ys.map (Value.int .i64))) = [Value.int .i64 x]
      have hj := (List.getElem?_eq_some_iff.1 hx).1
      rw [Nat.mul_one, List.drop_eq_getElem_cons (by rw [List.length_map]; exact hj), List.take_succ_cons, List.take_zero, List.getElem_map, (List.getElem?_eq_some_iff.1 hx).2]
theorem sort_frozen (w : World) (g j : Nat) (cur : Array Value) (e : TypeId) (hg : w.heap[g]? = some (.cells cur e (0, 0))) : w.frozen? ⟨g, j, none⟩ = false := by
  simp [World.frozen?, hg]
theorem sort_holds {B : Nat} {U : List Nat} {Z : Fz} {w : World} {e : TypeId} {ad : Addr} {cap : Nat} {xs : List Int} (h : (Res.own t6 e (some ad) cap xs).holds B U Z w) : ad = ⟨ad.block, 0, none⟩ ∧ ad.block < w.heap.size ∧ Holds (Value.int .i64) w ad.block 0 xs.toArray := by
  obtain ⟨d, f, cells, ho, hr⟩ := h
  rcases ho.2 with ⟨hv, _⟩ | ⟨g, cap', cur, hv, hb, hg, hn, hc, hs, ht⟩
  · cases hv
  · cases hv
    refine ⟨rfl, (Array.getElem?_eq_some_iff.1 hg).1, fun j hj => ⟨?_, sort_frozen w g _ cur e hg⟩⟩
    have hj : j < xs.length := by simpa using hj
    have b := hr.2 j xs[j] (List.getElem?_eq_getElem hj)
    have b : List.take 1 (List.drop (j * 1) cells) = [Value.int .i64 xs[j]] := b
    have a : cells[j]? = some (Value.int .i64 xs[j]) := by
      have c := congrArg (fun l => l[0]?) b
      simpa using c
    rw [← ht, List.getElem?_take] at a
    split at a
    · show w.cell? ⟨g, 0 + j, none⟩ = _
      rw [cell_of_row w g _ cur e (0, 0) hg, Nat.zero_add]
      rw [Array.getElem?_toList] at a
      rw [a]
      simp [hj]
    · cases a
theorem isort_at {P : Program} {fid : Nat} (u0 : List Int) (ao1 : Option Addr) (cap2 : Nat) (B : Nat) (w0 : World) (Z0 : Fz) (Rr : List Res) (Z : Fz) (w : World) {e : TypeId} (hM0 : Mem B [] w0 Z0 ((.own t6 e ao1 cap2 u0) :: Rr) Z w)
    (h1 : ∀ (blk off cap : Nat) (zs : List Int) (w : World) (hH : Holds (Value.int .i64) w blk off zs.toArray) (hblk : blk < w.heap.size) (hsz : zs.length < 4611686018427387904), Calls P fid #[.slice (some ⟨blk, off, none⟩) zs.length cap] w fun e w' => e = .returned (.tuple #[]) ∧ ∃ n os, w' = grow (putRow (Value.int .i64) (Go.Sort.ahead w n) blk off (zs.mergeSort fun x y => decide (x ≤ y)).toArray) os)
    (h2 : ∀ (p : Option Addr) (cap : Nat) (w : World), Calls P fid #[.slice p 0 cap] w fun e w' => e = .returned (.tuple #[]) ∧ w' = w) :
    Calls P fid #[.slice ao1 u0.length cap2] w fun e9 w' => ∃ (Z' : Fz), e9 = .returned (.tuple #[]) ∧ Fz.le Z Z' ∧ ((isortS u0).length = u0.length) ∧ Mem B [] w0 Z0 ((.own t6 e ao1 cap2 (isortS u0)) :: Rr) Z' w' := by
  have hr := hM0.res _ List.mem_cons_self
  cases ao1 with
  | none =>
    obtain ⟨_, _, cells, ho, _⟩ := hr
    rcases ho.2 with ⟨hv, hn⟩ | ⟨g, cap', cur, hv, _⟩
    · have : u0 = [] := List.eq_nil_of_length_eq_zero hn
      subst this
      have a : isortS [] = [] := by unfold isortS; exact List.mergeSort_nil
      rw [a]
      exact (h2 none cap2 w).mono fun _ _ ⟨ha, hb⟩ => by subst hb; exact ⟨Z, ha, Fz.le.refl Z, rfl, hM0⟩
    · cases hv
  | some ad =>
    obtain ⟨ha, hb, hc⟩ := sort_holds hr
    have hsm : u0.length < 4611686018427387904 := by
      have := hr.2.1
      have e : lim = 140737488355328 := rfl
      omega
    have hcall := h1 ad.block 0 cap2 u0 w hc hb hsm
    rw [← ha] at hcall
    refine hcall.mono ?_
    rintro _ _ ⟨he, n, os, rfl⟩
    exact ⟨Z, he, Fz.le.refl Z, isort_len u0, sort_mem hM0 0 rfl n os (isortS u0) (isort_len u0)⟩
theorem isort_fun (u0 : List Int) (ao1 : Option Addr) (cap2 : Nat) (B : Nat) (w0 : World) (Z0 : Fz) (Rr : List Res) (Z : Fz) (w : World) (hM0 : Mem B [] w0 Z0 ((.own t6 3 ao1 cap2 u0) :: Rr) Z w) (hZ : Z.on w) : Calls Try.prog 37 #[.slice ao1 u0.length cap2] w fun e w' => ∃ (Z' : Fz), e = .returned (.tuple #[]) ∧ Fz.le Z Z' ∧ ((isortS u0).length = u0.length) ∧ Mem B [] w0 Z0 ((.own t6 3 ao1 cap2 (isortS u0)) :: Rr) Z' w' :=
  isort_at u0 ao1 cap2 B w0 Z0 Rr Z w hM0 (fun blk off cap zs w hH hb hs => Any.slices_Sort_int Try.lays189 blk off cap zs w hH hb hs) (fun p cap w => Any.slices_Sort_int_none Try.lays189 p cap w)

theorem icmp_walk (u0 : Int) (u1 : Int)  (Z : Fz) (w : World)  (hZ : Z.on w) {K : Int → Prop} (hp : icmp_vc u0 u1 K) : Calls Try.prog 38 #[i6 u0, i6 u1] w fun e w' => ∃ r : Int, e = .returned (i6 r) ∧ K r ∧ Below w.heap.size w w' := by
 refine enter0 Try.func38 rfl rfl (by kernel_rfl) ?_; intro U u; have h := Mem.start w Z hZ; have V := Fz.le.refl Z
 refine sqB u h [] [] [] ?_; intro W v; clear u
 refine sqH ?_; intro F x
 refine s1 v 7 (i6 u0) ?_; intro X y; clear v
 refine fc y h (iisnan_fun u0 _ _ h.fz) ?_; intro Y aa z m; clear y h
 refine s1 z 5 (.bool (iisnan u0)) ?_; intro ab A; clear z
 refine nlH (x _ _ ?_); clear x F
 refine sqH ?_; intro G B
 refine s1 A 9 (i6 u1) ?_; intro ac C; clear A
 refine fc C m (iisnan_fun u1 _ _ m.fz) ?_; intro ad ae D a; clear C m
 refine s1 D 6 (.bool (iisnan u1)) ?_; intro af E; clear D
 refine nlH (B _ _ ?_); clear B G
 refine wp_seq ?_
 refine sqB E a [] [] [(11, .bool (iisnan u0))] ?_; intro ag b; clear E
 refine cd b (t := (iisnan u0)) (by kernel_rfl) (fun n => ?_) (fun n => ?_)
 · -- yes
  have i := hp.1 n; clear hp
  refine wp_seq ?_
  refine sqB b a [] [] [(12, .bool (iisnan u1))] ?_; intro ah c; clear b
  refine cd c (t := (iisnan u1)) (by kernel_rfl) (fun o => ?_) (fun o => ?_)
  · -- yes
   have H := i.1 o; clear i
   refine sqB c a [] [] [(4, i6 0)] ?_; intro ai I; clear c
   refine wp_ret ?_
   refine thr ?_
   refine thr ?_
   refine ra1 I (i6 0) ?_
   exact ⟨0, rfl, H, a.below⟩
  · -- no
   have J := i.2 o; clear i
   refine wp_skip ?_
   refine thn ?_
   refine sqB c a [] [] [(4, i6 (-1))] ?_; intro aj L; clear c
   refine wp_ret ?_
   refine thr ?_
   refine ra1 L (i6 (-1)) ?_
   exact ⟨-1, rfl, J, a.below⟩
 · -- no
  have j := hp.2 n; clear hp
  refine wp_skip ?_
  refine thn ?_
  refine wp_seq ?_
  refine sqB b a [] [] [(13, .bool (iisnan u1))] ?_; intro ak d; clear b
  refine cd d (t := (iisnan u1)) (by kernel_rfl) (fun p => ?_) (fun p => ?_)
  · -- yes
   have M := j.1 p; clear j
   refine sqB d a [] [] [(4, i6 1)] ?_; intro al N; clear d
   refine wp_ret ?_
   refine thr ?_
   refine ra1 N (i6 1) ?_
   exact ⟨1, rfl, M, a.below⟩
  · -- no
   have k := j.2 p; clear j
   refine wp_skip ?_
   refine thn ?_
   refine wp_seq ?_
   refine sqB d a [] [] [(16, .bool (decide (u0 < u1)))] ?_; intro am f; clear d
   refine cd f (t := decide (u0 < u1)) (by kernel_rfl) (fun q => ?_) (fun q => ?_)
   · -- yes
    have O := k.1 q; clear k
    refine sqB f a [] [] [(4, i6 (-1))] ?_; intro an P; clear f
    refine wp_ret ?_
    refine thr ?_
    refine ra1 P (i6 (-1)) ?_
    exact ⟨-1, rfl, O, a.below⟩
   · -- no
    have l := k.2 q; clear k
    refine wp_skip ?_
    refine thn ?_
    refine wp_seq ?_
    refine sqB f a [] [] [(19, .bool (decide (u0 > u1)))] ?_; intro ao g; clear f
    refine cd g (t := decide (u0 > u1)) (by kernel_rfl) (fun s => ?_) (fun s => ?_)
    · -- yes
     have Q := l.1 s; clear l
     refine sqB g a [] [] [(4, i6 1)] ?_; intro ap R; clear g
     refine wp_ret ?_
     refine thr ?_
     refine ra1 R (i6 1) ?_
     exact ⟨1, rfl, Q, a.below⟩
    · -- no
     have S := l.2 s; clear l
     refine wp_skip ?_
     refine thn ?_
     refine sqB g a [] [] [(4, i6 0)] ?_; intro aq T; clear g
     refine wp_ret ?_
     refine ra1 T (i6 0) ?_
     exact ⟨0, rfl, S, a.below⟩

end Go.Proofs.Ytdndfbamhnchfaa
set_option linter.unusedVariables false
set_option linter.unusedSimpArgs false
set_option maxRecDepth 100000
set_option maxHeartbeats 0
namespace Go.Proofs.Ytdndfbamhnchfaa
open Go.Sy Go.RowKit
abbrev e23F (X : Signal) : List Value := [str X.Name, i6 X.Start, i6 X.Size, .bool X.Back, .bool X.Signed, i6 X.Mul, i6 X.Div, i6 X.Add, i6 X.Key]
theorem icmp_fun (u0 : Int) (u1 : Int)  (Z : Fz) (w : World)  (hZ : Z.on w) : Calls Try.prog 38 #[i6 u0, i6 u1] w fun e w' => e = .returned (i6 (icmpS u0 u1)) ∧ Below w.heap.size w w' :=
  (icmp_walk u0 u1  Z w  hZ (icmp_ok u0 u1)).mono fun _ _ ⟨r, he, hk, hb⟩ => ⟨by subst hk; exact he, hb⟩

theorem sover_walk (u0 : Signal) (u1 : Signal)  (Z : Fz) (w : World)  (hZ : Z.on w) {K : Bool → Prop} (hp : sover_vc u0 u1 K) : Calls Try.prog 15 #[.agg #[str u0.Name, i6 u0.Start, i6 u0.Size, .bool u0.Back, .bool u0.Signed, i6 u0.Mul, i6 u0.Div, i6 u0.Add, i6 u0.Key], .agg #[str u1.Name, i6 u1.Start, i6 u1.Size, .bool u1.Back, .bool u1.Signed, i6 u1.Mul, i6 u1.Div, i6 u1.Add, i6 u1.Key]] w fun e w' => ∃ r : Bool, e = .returned (.bool r) ∧ K r ∧ Below w.heap.size w w' := by
 refine enter0 Try.func15 rfl rfl (by kernel_rfl) ?_; intro a0 aj; have ak := Mem.start w Z hZ; have h := Fz.le.refl Z
 refine sqH ?_; intro bB al
 refine nw aj ak pb (e23F u0) 23 ?_; intro j a3 cJ am an; clear aj ak
 refine nw am an pb (e23F u1) 23 ?_; intro i a8 cK ao H; clear am an
 refine s1 ao 4 (.bool false) ?_; intro cL ap; clear ao
 refine nlH (al _ _ ?_); clear al bB
 refine wp_seq ?_
 refine sqH ?_; intro bC aq
 refine l2 ap H 8 1 0 9 (e23F u0) rfl rfl ?_; intro cM ar; clear ap
 refine fc ar H (scheck_fun u0 64 _ _ H.fz) ?_; intro cN cO au I; clear ar H
 refine s1 au 10 (.bool ((checkS u0 64) != 0)) ?_; intro cP av; clear au
 refine s1 av 11 (.bool ((checkS u0 64) != 0)) ?_; intro cQ aw; clear av
 have S := aw.atom (((checkS u0 64) != 0) == false) (by kernel_rfl); clear aw
 refine gd S (.agg (e23F u1).toArray) (m := 0) (cj := []) (bj := (checkS u0 64) != 0) rfl rfl (by kernel_rfl) rfl (by kernel_rfl) (by kernel_rfl) (by kernel_rfl) (fun hg => lda S I 0 (g := [0]) (b := i) (off := 0) (k := 9) (cs := (e23F u1)) (vs := (e23F u1)) (ty := 23) rfl (by kernel_rfl) (by kernel_rfl) (by kernel_rfl) (by kernel_rfl) (by kernel_rfl) hg) ?_; intro cR ax; clear S
 refine gcl ax I (i6 (checkS u1 64)) 23 #[.agg (e23F u1).toArray, i6 64] (m := 0) (cj := []) (bj := (checkS u0 64) != 0) rfl rfl (by kernel_rfl) rfl (by kernel_rfl) (by kernel_rfl) (by kernel_rfl) (fun _ => by kernel_rfl) (fun hg => scheck_fun u1 64 _ _ I.fz) ?_; intro cT cU ay J; clear ax I
 refine gp ay 14 0 [] ((checkS u0 64) != 0) (.bool ((checkS u1 64) != 0)) rfl rfl ?_; intro cV U; clear ay
 refine st U (.bool (((checkS u0 64) != 0) || ((checkS u1 64) != 0))) (nog rfl _) rfl (by kernel_rfl) (pk_or U (g := []) (m := 0) (b := (checkS u0 64) != 0) (v := (checkS u1 64) != 0) rfl (by kernel_rfl) (by kernel_rfl) (by kernel_rfl) rfl) ?_; intro az x; clear U
 refine nlH (aq _ _ ?_); clear aq bC
 refine cd x (t := ((checkS u0 64) != 0) || ((checkS u1 64) != 0)) (by kernel_rfl) (fun V => ?_) (fun V => ?_)
 · -- yes
  have bD := hp.1 V; clear hp
  have aA : Fr 49 [] [] az := x.region (by kernel_rfl) (by kernel_rfl); clear x
  refine sqB aA J [] [] [(4, .bool false)] ?_; intro cW bE; clear aA
  refine wp_ret ?_
  refine thr ?_
  refine ra1 bE (.bool false) ?_
  exact ⟨false, rfl, bD, J.below⟩
 · -- no
  have bF := hp.2 V; clear hp
  refine wp_skip ?_
  refine thn ?_
  have aB : Fr 49 [] [⟨2, [], pt j 0⟩, ⟨3, [], pt i 0⟩] az := x.region (by kernel_rfl) (by kernel_rfl); clear x
  refine wp_seq (rgS mixed J [(0, true), (2, true), (1, false), (3, false), (4, true), (5, true)] [] [1, 0] [.row j (e23F u0) 23, .row i (e23F u1) 23] ?_)
  intro bG aC cX W; clear J
  have q := Fz.le.refl Z
  refine cS aB 2 [0, 1] [] [(16, .agg (e23F u0).toArray), (18, .agg (e23F u1).toArray)] ?_; intro cY aD; clear aB
  refine eS rfl ?_; intro bH aE
  obtain ⟨bI, bJ⟩ := bF
  refine ck aD 30 #[.agg (e23F u0).toArray] ?_
  refine (splaces_fun u0 bI _ _ W.fz).mono ?_; rintro _ bK ⟨a, c, bL, rfl, hm⟩; refine ⟨_, rfl, ?_⟩; intro cZ aF; have aG := W.callZ hm; have aH := hm.ext.le; clear hm W aD
  replace q := q.mono aH
  replace h := Fz.le.trans h aH
  have L : Mem w.heap.size [] w Z [.own t6 3 a c (placesS u0), .row i (e23F u1) 23, .row j (e23F u0) 23] bL bK := aG; clear aG
  refine nl (qnI (aE _ _ (L.cst q [2, 1]) ?_)); clear aE bH
  refine eS rfl ?_; intro bM aI
  obtain ⟨bN, aJ⟩ := bJ
  refine ck aF 30 #[.agg (e23F u1).toArray] ?_
  refine (splaces_fun u1 bN _ _ L.fz).mono ?_; rintro _ bO ⟨d, f, bP, rfl, hm⟩; refine ⟨_, rfl, ?_⟩; intro c0 aK; have aL := L.callZ hm; have aM := hm.ext.le; clear hm L aF
  replace q := q.mono aM
  replace h := Fz.le.trans h aM
  have M : Mem w.heap.size [] w Z [.own t6 3 d f (placesS u1), .own t6 3 a c (placesS u0), .row i (e23F u1) 23, .row j (e23F u0) 23] bP bO := aL; clear aL
  refine nl (qnI (aI _ _ (M.cst q [3, 2]) ?_)); clear aI bM
  refine cS aK 2 [] [] [(5, .slice a (placesS u0).length c), (6, .slice d (placesS u1).length f)] ?_; intro c1 aN; clear aK
  refine nS (aC _ _ ?_); clear aC bG
  refine thn ?_
  refine sqH ?_; intro bQ aO
  refine s1 aN 20 (.slice a (placesS u0).length c) ?_; intro c2 aP; clear aN
  refine ck aP 37 #[.slice a (placesS u0).length c] ?_
  refine (isort_fun (placesS u0) a c _ _ _ _ _ _ (M.perm (pk 1 rfl)) M.fz).mono ?_; rintro _ bR ⟨bS, rfl, bT, bU, hm⟩; refine ⟨_, rfl, ?_⟩; intro bV aQ; have aR := hm; clear hm M aP
  replace h := Fz.le.trans h bT
  have aS : Fr 49 [] [⟨2, [], pt j 0⟩, ⟨3, [], pt i 0⟩, ⟨5, [], .slice a (isortS (placesS u0)).length c⟩, ⟨6, [], .slice d (placesS u1).length f⟩, ⟨16, [], .agg (e23F u0).toArray⟩, ⟨17, [], .slice a (isortS (placesS u0)).length c⟩, ⟨18, [], .agg (e23F u1).toArray⟩, ⟨19, [], .slice d (placesS u1).length f⟩, ⟨20, [], .slice a (isortS (placesS u0)).length c⟩, ⟨21, [], .tuple #[]⟩] bV := by rw [bU]; exact aQ.region (by kernel_rfl) (by kernel_rfl)
  clear aQ
  have N : Mem w.heap.size [] w Z [.own t6 3 a c (isortS (placesS u0)), .own t6 3 d f (placesS u1), .row i (e23F u1) 23, .row j (e23F u0) 23] bS bR := aR; clear aR
  have aT := aJ (N.ownSmall 0 rfl); clear aJ
  refine nlH (aO _ _ ?_); clear aO bQ
  refine sqH ?_; intro bW aU
  refine s1 aS 22 (.slice d (placesS u1).length f) ?_; intro c3 aV; clear aS
  refine ck aV 37 #[.slice d (placesS u1).length f] ?_
  refine (isort_fun (placesS u1) d f _ _ _ _ _ _ (N.perm (pk 1 rfl)) N.fz).mono ?_; rintro _ X ⟨bX, rfl, bY, bZ, hm⟩; refine ⟨_, rfl, ?_⟩; intro Y aW; have aX := hm; clear hm N aV
  replace h := Fz.le.trans h bY
  have aY : Fr 49 [] [⟨2, [], pt j 0⟩, ⟨3, [], pt i 0⟩, ⟨5, [], .slice a (isortS (placesS u0)).length c⟩, ⟨6, [], .slice d (isortS (placesS u1)).length f⟩, ⟨16, [], .agg (e23F u0).toArray⟩, ⟨17, [], .slice a (isortS (placesS u0)).length c⟩, ⟨18, [], .agg (e23F u1).toArray⟩, ⟨19, [], .slice d (isortS (placesS u1)).length f⟩, ⟨20, [], .slice a (isortS (placesS u0)).length c⟩, ⟨21, [], .tuple #[]⟩, ⟨22, [], .slice d (isortS (placesS u1)).length f⟩, ⟨23, [], .tuple #[]⟩] Y := by rw [bZ]; exact aW.region (by kernel_rfl) (by kernel_rfl)
  clear aW
  have aZ : Mem w.heap.size [] w Z [.own t6 3 d f (isortS (placesS u1)), .own t6 3 a c (isortS (placesS u0)), .row i (e23F u1) 23, .row j (e23F u0) 23] bX X := aX; clear aX
  have b0 := aT (aZ.ownSmall 0 rfl); clear aT
  refine nlH (aU _ _ ?_); clear aU bW
  refine wp_seq ?_
  refine wp_block ?_
  have a1 : Fr 49 [] [⟨5, [], .slice a (isortS (placesS u0)).length c⟩, ⟨6, [], .slice d (isortS (placesS u1)).length f⟩] Y := aY.region (by kernel_rfl) (by kernel_rfl); clear aY
  obtain ⟨b1, b3, a2, O⟩ := aZ.freeze 1 rfl
  replace h := Fz.le.trans h b3
  have b4 : Mem w.heap.size [] w Z [.own t6 3 d f (isortS (placesS u1)), .row i (e23F u1) 23, .row j (e23F u0) 23] b1 X := a2; clear a2
  obtain ⟨aa, a4, a5, a6⟩ := b4.freeze 0 rfl
  replace O := O.mono a4
  replace h := Fz.le.trans h a4
  have a7 : Mem w.heap.size [] w Z [.row i (e23F u1) 23, .row j (e23F u0) 23] aa X := a5; clear a5
  have a9 : Fr 49 [] [⟨5, [], .slice a (isortS (placesS u0)).length c⟩, ⟨6, [], .slice d (isortS (placesS u1)).length f⟩] Y := a1.region (by kernel_rfl) (by kernel_rfl); clear a1
  obtain ⟨b5, b6, b8, b9⟩ := b0
  have c4 := h
  refine lp (ι := (List Int) × (List Int) × (Option Addr) × Nat × (Option Addr) × Nat × Fz) (fun s => [⟨5, [], .slice s.2.2.1 s.1.length s.2.2.2.1⟩, ⟨6, [], .slice s.2.2.2.2.1 s.2.1.length s.2.2.2.2.2.1⟩]) (fun s => [.row i (e23F u1) 23, .row j (e23F u0) 23]) (fun s => s.2.2.2.2.2.2) (fun s => b5 s.1 s.2.1 ∧ SlR t6 s.2.2.2.2.2.2 s.2.2.1 s.2.2.2.1 s.1 ∧ SlR t6 s.2.2.2.2.2.2 s.2.2.2.2.1 s.2.2.2.2.2.1 s.2.1 ∧ Fz.le aa s.2.2.2.2.2.2) (fun s => b6 s.1 s.2.1) ⟨(isortS (placesS u0)), (isortS (placesS u1)), a, c, d, f, aa⟩ ⟨b8, O, a6, Fz.le.refl _⟩ (by exact a9.region (by kernel_rfl) (by kernel_rfl)) (by exact a7) ?_
  rintro ⟨l, n, y, z, A, B, ab⟩ ⟨ca, ac, ad, C⟩ cb cc ba bb
  have bc : Fr 49 [] [⟨5, [], .slice y l.length z⟩, ⟨6, [], .slice A n.length B⟩] cb := ba; clear ba a9
  have D : Mem w.heap.size [] w Z [.row i (e23F u1) 23, .row j (e23F u0) 23] ab cc := bb; clear bb a7
  have P := b9 l n ca
  replace h := Fz.le.trans h C
  have c5 := O.mono C
  have c6 := a6.mono C
  refine wp_seq ?_
  refine sqB bc D [] [] [(31, .bool ((decide ((l.length : Int) > 0)) && (decide ((n.length : Int) > 0))))] ?_; intro ce E; clear bc
  refine cd E (t := (decide ((l.length : Int) > 0)) && (decide ((n.length : Int) > 0))) (by kernel_rfl) (fun ae => ?_) (fun ae => ?_)
  · -- yes
   have cf := P.1 ae; clear P
   refine wp_skip ?_
   refine thn ?_
   refine wp_block ?_
   have bd : Fr 49 [] [⟨5, [], .slice y l.length z⟩, ⟨6, [], .slice A n.length B⟩] ce := E.region (by kernel_rfl) (by kernel_rfl); clear E
   refine sqQH mixed (by kernel_rfl) D ?_; intro cg be
   refine q1 bd 32 (.slice y l.length z) ?_; intro c7 bf; clear bd
   obtain ⟨ch, bg⟩ := cf
   refine qix bf (T := t6) (xs := l) ac (0 : Int) ch (k := .i64) (e := 3) (bytes := 8) (nog rfl _) rfl (by kernel_rfl) rfl (by kernel_rfl) (by kernel_rfl) (by kernel_rfl) ?_; intro c8 c9 ci o da cl cm cn af; clear bf
   have co := bg o cl; clear bg
   obtain rfl : ci = ([i6 o] : List Value) := cn
   refine qst af (i6 o) (nog rfl _) rfl (by kernel_rfl) (fun v170 hC => lz af hC.fz cm 0 (g := []) rfl (by kernel_rfl) (by kernel_rfl) (by kernel_rfl) rfl) ?_; intro db bh; clear af
   refine q1 bh 35 (.slice A n.length B) ?_; intro dc bi; clear bh
   obtain ⟨cp, bk⟩ := co
   refine qix bi (T := t6) (xs := n) ad (0 : Int) cp (k := .i64) (e := 3) (bytes := 8) (nog rfl _) rfl (by kernel_rfl) rfl (by kernel_rfl) (by kernel_rfl) (by kernel_rfl) ?_; intro dd de cq p df cr ct cu ag; clear bi
   have Q := bk p cr; clear bk
   obtain rfl : cq = ([i6 p] : List Value) := cu
   refine qst ag (i6 p) (nog rfl _) rfl (by kernel_rfl) (fun v189 hC => lz ag hC.fz ct 0 (g := []) rfl (by kernel_rfl) (by kernel_rfl) (by kernel_rfl) rfl) ?_; intro dg bl; clear ag
   refine qcl bl (i6 (icmpS o p)) 38 #[i6 o, i6 p] (nog rfl _) rfl (by kernel_rfl) (fun _ => by kernel_rfl) (qfc fun w hC => icmp_fun o p _ _ hC.fz) ?_; intro dh bm; clear bl
   refine q1 bm 7 (i6 (icmpS o p)) ?_; intro di bn; clear bm
   refine qnl (be _ ?_); clear be cg; intro dj u; clear D
   refine wp_block ?_
   refine sqB bn u [] [] [(41, .bool ((icmpS o p) == 0))] ?_; intro dk F; clear bn
   refine cd F (t := (icmpS o p) == 0) (by kernel_rfl) (fun ah => ?_) (fun ah => ?_)
   · -- yes
    have cv := Q.1 ah; clear Q
    refine sqB F u [] [] [(4, .bool true)] ?_; intro dl cw; clear F
    refine wp_ret ?_
    refine ibr ?_
    refine ibr ?_
    refine thr ?_
    refine ibr ?_
    refine thr ?_
    refine ra1 cw (.bool true) ?_
    exact ⟨true, rfl, cv, u.below⟩
   · -- no
    have R := Q.2 ah; clear Q
    refine sqB F u [] [] [(44, .bool (decide ((icmpS o p) < 0)))] ?_; intro dm G; clear F
    refine cd G (t := decide ((icmpS o p) < 0)) (by kernel_rfl) (fun ai => ?_) (fun ai => ?_)
    · -- yes
     have cx := R.1 ai; clear R
     refine rgH ?_; intro cy bo
     refine s1 G 47 (.slice y l.length z) ?_; intro dn bp; clear G
     obtain ⟨cz, bq⟩ := cx
     refine slL bp (T := t6) (xs := l) ac (1 : Int) cz (k := .i64) (e := 3) (bytes := 8) (nog rfl _) rfl (by kernel_rfl) rfl (by kernel_rfl) (by kernel_rfl) (by kernel_rfl) ?_; intro br bs dp dq cA bt; clear bp
     refine s1 bt 5 (.slice br (l.drop (1 : Int).toNat).length bs) ?_; intro dr cB; clear bt
     refine nlH (bo _ _ ?_); clear bo cy
     refine ibn ?_
     refine ibn ?_
     refine rd ?_
     exact ⟨⟨l.drop (1 : Int).toNat, n, br, bs, A, B, ab⟩, ⟨bq.1, cA, ad, C⟩, bq.2, (cB.region (by kernel_rfl) (by kernel_rfl)).anyβ _ (by kernel_rfl), u.keep (List.Sublist.cons_cons _ (List.Sublist.cons_cons _ (List.Sublist.slnil)))⟩
    · -- no
     have cC := R.2 ai; clear R
     refine rgH ?_; intro cD bu
     refine s1 G 39 (.slice A n.length B) ?_; intro ds bv; clear G
     obtain ⟨cE, bw⟩ := cC
     refine slL bv (T := t6) (xs := n) ad (1 : Int) cE (k := .i64) (e := 3) (bytes := 8) (nog rfl _) rfl (by kernel_rfl) rfl (by kernel_rfl) (by kernel_rfl) (by kernel_rfl) ?_; intro bx bz dt du cF bA; clear bv
     refine s1 bA 6 (.slice bx (n.drop (1 : Int).toNat).length bz) ?_; intro dv cG; clear bA
     refine nlH (bu _ _ ?_); clear bu cD
     refine ibn ?_
     refine ibn ?_
     refine rd ?_
     exact ⟨⟨l, n.drop (1 : Int).toNat, y, z, bx, bz, ab⟩, ⟨bw.1, ac, cF, C⟩, bw.2, (cG.region (by kernel_rfl) (by kernel_rfl)).anyβ _ (by kernel_rfl), u.keep (List.Sublist.cons_cons _ (List.Sublist.cons_cons _ (List.Sublist.slnil)))⟩
  · -- no
   have cH := P.2 ae; clear P
   refine wp_exit ?_
   refine thx ?_
   refine thx ?_
   refine ibx ?_
   refine thn ?_
   refine sqB E D [] [] [(4, .bool false)] ?_; intro dw cI; clear E
   refine wp_ret ?_
   refine ra1 cI (.bool false) ?_
   exact ⟨false, rfl, cH, D.below⟩

end Go.Proofs.Ytdndfbamhnchfaa
set_option linter.unusedVariables false
set_option linter.unusedSimpArgs false
namespace Go.Proofs.Ytdndfbamhnchfaa
open Go.Sy Go.RowKit
theorem sover_fun (u0 : Signal) (u1 : Signal)  (Z : Fz) (w : World)  (hZ : Z.on w) : Calls Try.prog 15 #[.agg #[str u0.Name, i6 u0.Start, i6 u0.Size, .bool u0.Back, .bool u0.Signed, i6 u0.Mul, i6 u0.Div, i6 u0.Add, i6 u0.Key], .agg #[str u1.Name, i6 u1.Start, i6 u1.Size, .bool u1.Back, .bool u1.Signed, i6 u1.Mul, i6 u1.Div, i6 u1.Add, i6 u1.Key]] w fun e w' => e = .returned (.bool (overS u0 u1)) ∧ Below w.heap.size w w' :=
  (sover_walk u0 u1  Z w  hZ (sover_ok u0 u1)).mono fun _ _ ⟨r, he, hk, hb⟩ => ⟨by subst hk; exact he, hb⟩

end Go.Proofs.Ytdndfbamhnchfaa
set_option linter.unusedVariables false
set_option linter.unusedSimpArgs false
set_option maxRecDepth 100000
set_option maxHeartbeats 0
namespace Go.Proofs.Ytdndfbamhnchfaa
open Go.Sy Go.RowKit
theorem fsizes_walk   (Z : Fz) (w : World)  (hZ : Z.on w) {K : (List Int) → Prop} (hp : fsizes_vc  K) : Calls Try.prog 63 #[] w fun e w' => ∃ (r : (List Int)) (ao1001 : Option Addr) (cap1002 : Nat) (Z' : Fz), e = .returned (.slice ao1001 r.length cap1002) ∧ K r ∧ Mem w.heap.size [] w Z [.own t6 3 ao1001 cap1002 r] Z' w' := by
 refine enter0 Try.func63 rfl rfl (by kernel_rfl) ?_; intro n d; have c := Mem.start w Z hZ; have o := Fz.le.refl Z
 refine sqB d c [] [] [] ?_; intro p f; clear d
 refine sqH ?_; intro j g
 refine nw f c (fun b => .slice (sm b) 16 16) [i6 0, i6 1, i6 2, i6 3, i6 4, i6 5, i6 6, i6 7, i6 8, i6 12, i6 16, i6 20, i6 24, i6 32, i6 48, i6 64] 3 ?_; intro a q k h i; clear f c
 refine s1 h 0 (.slice (sm a) 16 16) ?_; intro s l; clear h
 refine nlH (g _ _ ?_); clear g j
 refine wp_ret ?_
 have m : Mem w.heap.size [] w Z [.own t6 3 (sm a) 16 ([0, 1, 2, 3, 4, 5, 6, 7, 8, 12, 16, 20, 24, 32, 48, 64] : List Int)] Z k := i.rowOwn (T := t6) (xs := ([0, 1, 2, 3, 4, 5, 6, 7, 8, 12, 16, 20, 24, 32, 48, 64] : List Int)) 0 rfl (by decide) (by show 16 ≤ lim; decide) ((RepAll.one (T := t6) (x := 0) rfl).append ((RepAll.one (T := t6) (x := 1) rfl).append ((RepAll.one (T := t6) (x := 2) rfl).append ((RepAll.one (T := t6) (x := 3) rfl).append ((RepAll.one (T := t6) (x := 4) rfl).append ((RepAll.one (T := t6) (x := 5) rfl).append ((RepAll.one (T := t6) (x := 6) rfl).append ((RepAll.one (T := t6) (x := 7) rfl).append ((RepAll.one (T := t6) (x := 8) rfl).append ((RepAll.one (T := t6) (x := 12) rfl).append ((RepAll.one (T := t6) (x := 16) rfl).append ((RepAll.one (T := t6) (x := 20) rfl).append ((RepAll.one (T := t6) (x := 24) rfl).append ((RepAll.one (T := t6) (x := 32) rfl).append ((RepAll.one (T := t6) (x := 48) rfl).append (RepAll.one (T := t6) (x := 64) rfl)))))))))))))))); clear i
 refine ra1 l (.slice (sm a) ([0, 1, 2, 3, 4, 5, 6, 7, 8, 12, 16, 20, 24, 32, 48, 64] : List Int).length 16) ?_
 exact ⟨([0, 1, 2, 3, 4, 5, 6, 7, 8, 12, 16, 20, 24, 32, 48, 64] : List Int), (sm a), 16, Z, rfl, hp, m.keep (List.Sublist.cons_cons _ (List.Sublist.slnil))⟩
theorem fsizes_fun   (Z : Fz) (w : World)  (hZ : Z.on w) : Calls Try.prog 63 #[] w fun e w' => ∃ (ao1001 : Option Addr) (cap1002 : Nat) (Z' : Fz), e = .returned (.slice ao1001 fsizes.length cap1002) ∧ Mem w.heap.size [] w Z [.own t6 3 ao1001 cap1002 fsizes] Z' w' :=
  (fsizes_walk   Z w  hZ (fsizes_ok )).mono fun _ _ ⟨r, h0, h1, h2, he, hk, hm⟩ => by subst hk; exact ⟨h0, h1, h2, he, hm⟩

theorem sindex_walk (u0 : List Int) (u1 : Int) (ao1 : Option Addr) (cap2 : Nat) (Z : Fz) (w : World) (hs3 : SlR t6 Z ao1 cap2 u0) (hZ : Z.on w) {K : Int → Prop} (hp : sindex_vc u0 u1 K) : Calls Try.prog 36 #[.slice ao1 u0.length cap2, i6 u1] w fun e w' => ∃ r : Int, e = .returned (i6 r) ∧ K r ∧ Below w.heap.size w w' := by
 refine enter0 Try.func36 rfl rfl (by kernel_rfl) ?_; intro a0 m; have g := Mem.start w Z hZ; have ad := Fz.le.refl Z
 have G := hp (hs3.small); clear hp
 refine sqB m g [] [] [] ?_; intro a6 n; clear m
 refine wp_seq ?_
 refine sqB n g [] [] [(7, i6 (u0.length : Int)), (8, i6 0)] ?_; intro o p; clear n
 refine wp_block ?_
 have q : Fr 19 [] [⟨0, [], .slice ao1 u0.length cap2⟩, ⟨1, [], i6 u1⟩, ⟨7, [], i6 (u0.length : Int)⟩, ⟨8, [], i6 0⟩] o := p.region (by kernel_rfl) (by kernel_rfl); clear p
 have u : Fr 19 [] [⟨0, [], .slice ao1 u0.length cap2⟩, ⟨1, [], i6 u1⟩, ⟨7, [], i6 (u0.length : Int)⟩, ⟨8, [], i6 0⟩] o := q.region (by kernel_rfl) (by kernel_rfl); clear q
 obtain ⟨H, I, J, L⟩ := G
 refine lp (ι := Int) (fun s => [⟨0, [], .slice ao1 u0.length cap2⟩, ⟨1, [], i6 u1⟩, ⟨7, [], i6 (u0.length : Int)⟩, ⟨8, [], i6 s⟩]) (fun s => []) (fun s => Z) (fun s => H s) (fun s => I s) 0 J (by exact u.region (by kernel_rfl) (by kernel_rfl)) (by exact g) ?_
 rintro a M N O v x
 have y : Fr 19 [] [⟨0, [], .slice ao1 u0.length cap2⟩, ⟨1, [], i6 u1⟩, ⟨7, [], i6 (u0.length : Int)⟩, ⟨8, [], i6 a⟩] N := v; clear v u
 have b : Mem w.heap.size [] w Z [] Z O := x; clear x g
 have h := L a M
 refine sqB y b [] [] [(9, .bool (decide (a < (u0.length : Int))))] ?_; intro ae c; clear y
 refine wp_seq ?_
 refine cd c (t := decide (a < (u0.length : Int))) (by kernel_rfl) (fun j => ?_) (fun j => ?_)
 · -- yes
  have P := h.1 j; clear h
  refine wp_skip ?_
  refine thn ?_
  refine wp_seq ?_
  refine wp_block ?_
  refine sqB c b [] [] [(5, i6 a)] ?_; intro af z; clear c
  refine sqH ?_; intro Q A
  refine bt z b 3 [] [] [(11, i6 u1), (12, .slice ao1 u0.length cap2), (13, i6 a)] ?_; intro ag B; clear z
  obtain ⟨R, C⟩ := P
  refine ix B (T := t6) (xs := u0) hs3 a R (k := .i64) (e := 3) (bytes := 8) (nog rfl _) rfl (by kernel_rfl) rfl (by kernel_rfl) (by kernel_rfl) (by kernel_rfl) ?_; intro ah ai S d aj U V W D; clear B
  have i := C d U; clear C
  obtain rfl : S = ([i6 d] : List Value) := W
  refine z1 D b 15 V 0 (i6 d) rfl ?_; intro ak E; clear D
  refine s1 E 16 (.bool (u1 == d)) ?_; intro al f; clear E
  refine nlH (A _ _ ?_); clear A Q
  refine cd f (t := u1 == d) (by kernel_rfl) (fun l => ?_) (fun l => ?_)
  · -- yes
   have X := i.1 l; clear i
   refine sqB f b [] [] [(4, i6 a)] ?_; intro am Y; clear f
   refine wp_ret ?_
   refine ibr ?_
   refine thr ?_
   refine thr ?_
   refine ibr ?_
   refine thr ?_
   refine ra1 Y (i6 a) ?_
   exact ⟨a, rfl, X, b.below⟩
  · -- no
   have F := i.2 l; clear i
   refine wp_skip ?_
   refine ibn ?_
   refine thn ?_
   refine rgB f b [] [] [(8, i6 (w64 (a + 1)))] ?_; intro an aa; clear f
   refine rd ?_
   exact ⟨w64 (a + 1), F.1, F.2, (aa.region (by kernel_rfl) (by kernel_rfl)).anyβ _ (by kernel_rfl), b.keep (List.Sublist.slnil)⟩
 · -- no
  have ab := h.2 j; clear h
  refine wp_exit ?_
  refine thx ?_
  refine thx ?_
  refine ibx ?_
  refine thn ?_
  refine sqB c b [] [] [(4, i6 (-1))] ?_; intro ao ac; clear c
  refine wp_ret ?_
  refine ra1 ac (i6 (-1)) ?_
  exact ⟨-1, rfl, ab, b.below⟩

theorem scontains_walk (u0 : List Int) (u1 : Int) (ao1 : Option Addr) (cap2 : Nat) (Z : Fz) (w : World) (hs3 : SlR t6 Z ao1 cap2 u0) (hZ : Z.on w) {K : Bool → Prop} (hp : scontains_vc u0 u1 K) : Calls Try.prog 13 #[.slice ao1 u0.length cap2, i6 u1] w fun e w' => ∃ r : Bool, e = .returned (.bool r) ∧ K r ∧ Below w.heap.size w w' := by
 refine enter0 Try.func13 rfl rfl (by kernel_rfl) ?_; intro n c; have a := Mem.start w Z hZ; have o := Fz.le.refl Z
 have j := hp (hs3.small); clear hp
 refine sqB c a [] [] [] ?_; intro p d; clear c
 refine sqH ?_; intro k f
 refine bt d a 2 [] [] [(5, .slice ao1 u0.length cap2), (6, i6 u1)] ?_; intro q g; clear d
 refine ck g 36 #[.slice ao1 u0.length cap2, i6 u1] ?_
 refine (sindex_walk u0 u1 ao1 cap2 _ _ hs3 a.fz j).mono ?_; rintro _ s ⟨b, rfl, l, hb⟩; refine ⟨_, rfl, ?_⟩; intro t h; have i := a.call hb; clear hb a g
 refine bt h i 2 [] [] [(4, .bool (decide (b ≥ 0)))] ?_; intro u m; clear h
 refine nlH (f _ _ ?_); clear f k
 refine wp_ret ?_
 refine ra1 m (.bool (decide (b ≥ 0))) ?_
 exact ⟨decide (b ≥ 0), rfl, l, i.below⟩

end Go.Proofs.Ytdndfbamhnchfaa
set_option linter.unusedVariables false
set_option linter.unusedSimpArgs false
set_option maxRecDepth 100000
set_option maxHeartbeats 0
namespace Go.Proofs.Ytdndfbamhnchfaa
open Go.Sy Go.RowKit
abbrev e23Mb (X : Signal) : List Value := [str X.Name, i6 X.Start, i6 X.Size, .bool X.Back, .bool X.Signed, i6 X.Mul, i6 X.Div, i6 X.Add, i6 X.Key]
abbrev e53Mb (X : Frame) (A0 : Option Addr) (C0 : Nat) : List Value := [i6 X.ID, .bool X.Long, .bool X.Fast, .bool X.Remote, i6 X.Size, .slice A0 X.Data.length C0]
abbrev e51Mb (X : Message) (A0 : Option Addr) (C0 : Nat) : List Value := [i6 X.ID, .bool X.Long, str X.Name, i6 X.Size, i6 X.Chooser, .slice A0 X.Signals.length C0]
theorem scontains_fun (u0 : List Int) (u1 : Int) (ao1 : Option Addr) (cap2 : Nat) (Z : Fz) (w : World) (hs3 : SlR t6 Z ao1 cap2 u0) (hZ : Z.on w) : Calls Try.prog 13 #[.slice ao1 u0.length cap2, i6 u1] w fun e w' => e = .returned (.bool (scontainsS u0 u1)) ∧ Below w.heap.size w w' :=
  (scontains_walk u0 u1 ao1 cap2 Z w hs3 hZ (scontains_ok u0 u1)).mono fun _ _ ⟨r, he, hk, hb⟩ => ⟨by subst hk; exact he, hb⟩

theorem fcheckfr_walk (u0 : Frame) (ao1 : Option Addr) (cap2 : Nat) (Z : Fz) (w : World) (hs3 : SlR t8 Z ao1 cap2 u0.Data) (hZ : Z.on w) {K : Int → Prop} (hp : fcheckfr_vc u0 K) : Calls Try.prog 40 #[.agg #[i6 u0.ID, .bool u0.Long, .bool u0.Fast, .bool u0.Remote, i6 u0.Size, .slice ao1 u0.Data.length cap2]] w fun e w' => ∃ r : Int, e = .returned (i6 r) ∧ K r ∧ Below w.heap.size w w' := by
 refine enter0 Try.func40 rfl rfl (by kernel_rfl) ?_; intro a0 C; have D := Mem.start w Z hZ; have j := Fz.le.refl Z
 have k := hp (hs3.small); clear hp
 refine sqH ?_; intro V E
 refine nw C D pb (e53Mb u0 ao1 cap2) 53 ?_; intro l a7 aq F a; clear C D
 refine s1 F 2 (i6 0) ?_; intro ar G; clear F
 refine nlH (E _ _ ?_); clear E V
 refine wp_seq ?_
 refine wp_block ?_
 refine sqB G a [0, 0, 0, 0] [] [(3, .bool (((decide (u0.ID < 0)) || ((!u0.Long) && (decide (u0.ID > 2047)))) || (decide (u0.ID > 536870911))))] ?_; intro au c; clear G
 refine cd c (t := ((decide (u0.ID < 0)) || ((!u0.Long) && (decide (u0.ID > 2047)))) || (decide (u0.ID > 536870911))) (by kernel_rfl) (fun q => ?_) (fun q => ?_)
 · -- yes
  have W := k.1 q; clear k
  refine sqB c a [] [] [(2, i6 3)] ?_; intro av X; clear c
  refine wp_ret ?_
  refine ibr ?_
  refine thr ?_
  refine ra1 X (i6 3) ?_
  exact ⟨3, rfl, W, a.below⟩
 · -- no
  have m := k.2 q; clear k
  refine sqB c a [0, 0, 0] [] [(22, .bool (u0.Remote && (u0.Fast || (decide ((u0.Data.length : Int) > 0)))))] ?_; intro aw d; clear c
  refine cd d (t := u0.Remote && (u0.Fast || (decide ((u0.Data.length : Int) > 0)))) (by kernel_rfl) (fun s => ?_) (fun s => ?_)
  · -- yes
   have Y := m.1 s; clear m
   refine sqB d a [] [] [(2, i6 4)] ?_; intro ax aa; clear d
   refine wp_ret ?_
   refine ibr ?_
   refine thr ?_
   refine ra1 aa (i6 4) ?_
   exact ⟨4, rfl, Y, a.below⟩
  · -- no
   have n := m.2 s; clear m
   refine sqB d a [0, 0, 0, 0] [] [(35, .bool (((decide (u0.Size < 0)) || (decide (u0.Size > 8))) || ((!u0.Remote) && (u0.Size != 0))))] ?_; intro ay f; clear d
   refine cd f (t := ((decide (u0.Size < 0)) || (decide (u0.Size > 8))) || ((!u0.Remote) && (u0.Size != 0))) (by kernel_rfl) (fun u => ?_) (fun u => ?_)
   · -- yes
    have ab := n.1 u; clear n
    refine sqB f a [] [] [(2, i6 3)] ?_; intro az ac; clear f
    refine wp_ret ?_
    refine ibr ?_
    refine thr ?_
    refine ra1 ac (i6 3) ?_
    exact ⟨3, rfl, ab, a.below⟩
   · -- no
    have o := n.2 u; clear n
    refine sqB f a [0, 0, 0] [] [(54, .bool ((decide ((u0.Data.length : Int) > 64)) || ((!u0.Fast) && (decide ((u0.Data.length : Int) > 8)))))] ?_; intro ad g; clear f
    refine cd g (t := (decide ((u0.Data.length : Int) > 64)) || ((!u0.Fast) && (decide ((u0.Data.length : Int) > 8)))) (by kernel_rfl) (fun v => ?_) (fun v => ?_)
    · -- yes
     have ae := o.1 v; clear o
     refine sqB g a [] [] [(2, i6 2)] ?_; intro aA af; clear g
     refine wp_ret ?_
     refine ibr ?_
     refine thr ?_
     refine ra1 af (i6 2) ?_
     exact ⟨2, rfl, ae, a.below⟩
    · -- no
     have p := o.2 v; clear o
     have H : Fr 77 [] [⟨1, [], pt l 0⟩] ad := g.region (by kernel_rfl) (by kernel_rfl); clear g
     refine wp_seq (rgS mixed a [(1, true), (2, true), (3, true), (0, false), (4, false), (5, true), (6, true)] [] [0] [.row l (e53Mb u0 ao1 cap2) 53] ?_)
     intro ag I aB x; clear a
     have b := Fz.le.refl Z
     refine cS H 3 [0] [] [(74, i6 (u0.Data.length : Int))] ?_; intro aC J; clear H
     refine eS rfl ?_; intro ah L
     refine ck J 63 #[] ?_
     refine (fsizes_fun  _ _ x.fz).mono ?_; rintro _ M ⟨N, O, ai, rfl, hm⟩; refine ⟨_, rfl, ?_⟩; intro aD P; have Q := x.callZ hm; have y := hm.ext.le; clear hm x J
     replace hs3 := hs3.mono y
     replace b := b.mono y
     replace j := Fz.le.trans j y
     have R : Mem w.heap.size [] w Z [.own t6 3 N O fsizes, .row l (e53Mb u0 ao1 cap2) 53] ai M := Q; clear Q
     refine nl (qnI (L _ _ (R.cst b [1]) ?_)); clear L ah
     refine eS rfl ?_; intro aj S
     obtain ⟨ak, z, T, al⟩ := R.freeze 0 rfl
     replace hs3 := hs3.mono z
     replace b := b.mono z
     replace j := Fz.le.trans j z
     have A : Mem w.heap.size [] w Z [.row l (e53Mb u0 ao1 cap2) 53] ak M := T; clear T
     refine fc P A (scontains_fun fsizes (u0.Data.length : Int) N O _ _ al A.fz) ?_; intro aE aF U h; clear P A
     refine nl (qnI (S _ _ (h.cst b [0]) ?_)); clear S aj
     refine cS U 2 [] [] [(70, .bool (!(scontainsS fsizes (u0.Data.length : Int))))] ?_; intro aG i; clear U
     refine nS (I _ _ ?_); clear I ag
     refine thn ?_
     refine cd i (t := !(scontainsS fsizes (u0.Data.length : Int))) (by kernel_rfl) (fun B => ?_) (fun B => ?_)
     · -- yes
      have am := p.1 B; clear p
      refine sqB i h [] [] [(2, i6 4)] ?_; intro aH an; clear i
      refine wp_ret ?_
      refine ibr ?_
      refine thr ?_
      refine ra1 an (i6 4) ?_
      exact ⟨4, rfl, am, h.below⟩
     · -- no
      have ao := p.2 B; clear p
      refine wp_skip ?_
      refine ibn ?_
      refine thn ?_
      refine sqB i h [] [] [(2, i6 0)] ?_; intro aI ap; clear i
      refine wp_ret ?_
      refine ra1 ap (i6 0) ?_
      exact ⟨0, rfl, ao, h.below⟩
theorem fcheckfr_fun (u0 : Frame) (ao1 : Option Addr) (cap2 : Nat) (Z : Fz) (w : World) (hs3 : SlR t8 Z ao1 cap2 u0.Data) (hZ : Z.on w) : Calls Try.prog 40 #[.agg #[i6 u0.ID, .bool u0.Long, .bool u0.Fast, .bool u0.Remote, i6 u0.Size, .slice ao1 u0.Data.length cap2]] w fun e w' => e = .returned (i6 (fcheckfr u0)) ∧ Below w.heap.size w w' :=
  (fcheckfr_walk u0 ao1 cap2 Z w hs3 hZ (fcheckfr_ok u0)).mono fun _ _ ⟨r, he, hk, hb⟩ => ⟨by subst hk; exact he, hb⟩

theorem mthere_walk (u0 : Message) (u1 : Signal) (u2 : List Int) (ao1 : Option Addr) (cap2 : Nat) (ao4 : Option Addr) (cap5 : Nat) (Z : Fz) (w : World) (hs3 : SlR tySignal Z ao1 cap2 u0.Signals) (hs6 : SlR t8 Z ao4 cap5 u2) (hZ : Z.on w) {K : Bool → Prop} (hp : mthere_vc u0 u1 u2 K) : Calls Try.prog 41 #[.agg #[i6 u0.ID, .bool u0.Long, str u0.Name, i6 u0.Size, i6 u0.Chooser, .slice ao1 u0.Signals.length cap2], .agg #[str u1.Name, i6 u1.Start, i6 u1.Size, .bool u1.Back, .bool u1.Signed, i6 u1.Mul, i6 u1.Div, i6 u1.Add, i6 u1.Key], .slice ao4 u2.length cap5] w fun e w' => ∃ r : Bool, e = .returned (.bool r) ∧ K r ∧ Below w.heap.size w w' := by
 refine enter0 Try.func41 rfl rfl (by kernel_rfl) ?_; intro a0 F; have G := Mem.start w Z hZ; have aJ := Fz.le.refl Z
 have H := hp (hs3.small); clear hp
 have j := H (hs6.small); clear H
 refine sqH ?_; intro aq I
 refine nw F G pb (e51Mb u0 ao1 cap2) 51 ?_; intro h aK aL J L; clear F G
 refine nw J L pb (e23Mb u1) 23 ?_; intro f aM aN M l; clear J L
 refine s1 M 6 (.bool false) ?_; intro A N; clear M
 refine nlH (I _ _ ?_); clear I aq
 have n : Fr 23 [] [⟨2, [], .slice ao4 u2.length cap5⟩, ⟨3, [], pt h 0⟩, ⟨4, [], pt f 0⟩] A := N.region (by kernel_rfl) (by kernel_rfl); clear N
 rcases Bool.eq_false_or_eq_true (decide (u1.Key < 0)) with i | i
 · -- true
  have ar := j.1 i; clear j
  have O : Fr 23 [] [⟨2, [], .slice ao4 u2.length cap5⟩, ⟨3, [], pt h 0⟩, ⟨4, [], pt f 0⟩] A := n.region (by kernel_rfl) (by kernel_rfl); clear n
  refine sqQH mixed (by kernel_rfl) l ?_; intro au P
  refine q1 O 7 (pt f 8) ?_; intro aO B; clear O
  refine qst B (i6 u1.Key) (nog rfl _) rfl (by kernel_rfl) (fun v30 hC => ld B hC 0 (g := []) (b := f) (off := 8) (cs := (e23Mb u1)) (ty := 23) rfl (by kernel_rfl) (by kernel_rfl) (by kernel_rfl) (by kernel_rfl) rfl) ?_; intro aP Q; clear B
  refine q1 Q 9 (.bool (decide (u1.Key < 0))) ?_; intro aQ R; clear Q
  have S := R.reval (d := 9) (c := []) (v := .bool (decide (u1.Key < 0))) (by kernel_rfl) (.bool true) (by rw [i]); clear R
  refine q1 S 10 (.bool true) ?_; intro aR U; clear S
  refine qsk U (b := true) rfl rfl (by kernel_rfl) (by kernel_rfl) rfl rfl (by kernel_rfl) ?_; intro aS V; clear U
  refine qsk V (b := true) rfl rfl (by kernel_rfl) (by kernel_rfl) rfl rfl (by kernel_rfl) ?_; intro aT W; clear V
  refine qsk W (b := true) rfl rfl (by kernel_rfl) (by kernel_rfl) rfl rfl (by kernel_rfl) ?_; intro aU X; clear W
  refine qsk X (b := true) rfl rfl (by kernel_rfl) (by kernel_rfl) rfl rfl (by kernel_rfl) ?_; intro aV Y; clear X
  refine qsk Y (b := true) rfl rfl (by kernel_rfl) (by kernel_rfl) rfl rfl (by kernel_rfl) ?_; intro aW aa; clear Y
  refine qsk aa (b := true) rfl rfl (by kernel_rfl) (by kernel_rfl) rfl rfl (by kernel_rfl) ?_; intro aX ab; clear aa
  refine qsk ab (b := true) rfl rfl (by kernel_rfl) (by kernel_rfl) rfl rfl (by kernel_rfl) ?_; intro aY ac; clear ab
  refine qsk ac (b := true) rfl rfl (by kernel_rfl) (by kernel_rfl) rfl rfl (by kernel_rfl) ?_; intro aZ ad; clear ac
  refine qsk ad (b := true) rfl rfl (by kernel_rfl) (by kernel_rfl) rfl rfl (by kernel_rfl) ?_; intro a1 ae; clear ad
  refine qsk ae (b := true) rfl rfl (by kernel_rfl) (by kernel_rfl) rfl rfl (by kernel_rfl) ?_; intro a2 af; clear ae
  refine qsk af (b := true) rfl rfl (by kernel_rfl) (by kernel_rfl) rfl rfl (by kernel_rfl) ?_; intro a3 ag; clear af
  refine q1 ag 22 (.bool true) ?_; intro a4 ah; clear ag
  refine q1 ah 6 (.bool true) ?_; intro a5 av; clear ah
  refine qnl (P _ ?_); clear P au; intro a6 aw; clear l
  refine wp_ret ?_
  refine ra1 av (.bool true) ?_
  exact ⟨true, rfl, ar, aw.below⟩
 · -- false
  have ax := j.2 i; clear j
  have ai : Fr 23 [] [⟨2, [], .slice ao4 u2.length cap5⟩, ⟨3, [], pt h 0⟩, ⟨4, [], pt f 0⟩] A := n.region (by kernel_rfl) (by kernel_rfl); clear n
  refine sqQH mixed (by kernel_rfl) l ?_; intro ay aj
  refine q1 ai 7 (pt f 8) ?_; intro a7 C; clear ai
  refine qst C (i6 u1.Key) (nog rfl _) rfl (by kernel_rfl) (fun v76 hC => ld C hC 0 (g := []) (b := f) (off := 8) (cs := (e23Mb u1)) (ty := 23) rfl (by kernel_rfl) (by kernel_rfl) (by kernel_rfl) (by kernel_rfl) rfl) ?_; intro a8 ak; clear C
  refine q1 ak 9 (.bool (decide (u1.Key < 0))) ?_; intro a9 al; clear ak
  have am := al.reval (d := 9) (c := []) (v := .bool (decide (u1.Key < 0))) (by kernel_rfl) (.bool false) (by rw [i]); clear al
  refine q1 am 10 (.bool false) ?_; intro ba o; clear am
  refine qst o (pt h 5) (by rw [wanted_of o (b := false) rfl rfl (by kernel_rfl) (by kernel_rfl)]; rfl) rfl (by kernel_rfl) (fun v86 hC => p0 o (by kernel_rfl)) ?_; intro bb p; clear o
  refine qst p (.slice ao1 u0.Signals.length cap2) (by rw [wanted_of p (b := false) rfl rfl (by kernel_rfl) (by kernel_rfl)]; rfl) rfl (by kernel_rfl) (fun v89 hC => ld p hC 1 (g := []) (b := h) (off := 5) (cs := (e51Mb u0 ao1 cap2)) (ty := 51) rfl (by kernel_rfl) (by kernel_rfl) (by kernel_rfl) (by kernel_rfl) rfl) ?_; intro bc q; clear p
  refine qst q (pt h 4) (by rw [wanted_of q (b := false) rfl rfl (by kernel_rfl) (by kernel_rfl)]; rfl) rfl (by kernel_rfl) (fun v92 hC => p0 q (by kernel_rfl)) ?_; intro bd s; clear q
  refine qst s (i6 u0.Chooser) (by rw [wanted_of s (b := false) rfl rfl (by kernel_rfl) (by kernel_rfl)]; rfl) rfl (by kernel_rfl) (fun v95 hC => ld s hC 1 (g := []) (b := h) (off := 4) (cs := (e51Mb u0 ao1 cap2)) (ty := 51) rfl (by kernel_rfl) (by kernel_rfl) (by kernel_rfl) (by kernel_rfl) rfl) ?_; intro be D; clear s
  obtain ⟨az, an⟩ := ax
  refine qix D (T := tySignal) (xs := u0.Signals) hs3 u0.Chooser az (k := .i64) (e := 23) (bytes := 72) (by rw [wanted_of D (b := false) rfl rfl (by kernel_rfl) (by kernel_rfl)]; rfl) rfl (by kernel_rfl) rfl (by kernel_rfl) (by kernel_rfl) (by kernel_rfl) ?_; intro bf bg aA a bh aB aC aD t; clear D
  have aE := an a aB; clear an
  obtain rfl : aA = ((e23Mb a) : List Value) := aD
  refine qst t (.agg (e23Mb a).toArray) (by rw [wanted_of t (b := false) rfl rfl (by kernel_rfl) (by kernel_rfl)]; rfl) rfl (by kernel_rfl) (fun v111 hC => lza t hC.fz aC 0 (g := []) (m := 9) (vs := (e23Mb a)) rfl (by kernel_rfl) (by kernel_rfl) (by kernel_rfl) (by kernel_rfl) rfl) ?_; intro bi u; clear t
  refine qst u (.slice ao4 u2.length cap5) (by rw [wanted_of u (b := false) rfl rfl (by kernel_rfl) (by kernel_rfl)]; rfl) rfl (by kernel_rfl) (fun v114 hC => p0 u (by kernel_rfl)) ?_; intro bj E; clear u
  obtain ⟨aF, aG⟩ := aE
  refine qcl E (i6 (getS a u2)) 28 #[.agg (e23Mb a).toArray, .slice ao4 u2.length cap5] (by rw [wanted_of E (b := false) rfl rfl (by kernel_rfl) (by kernel_rfl)]; rfl) rfl (by kernel_rfl) (fun _ => by kernel_rfl) (qfc fun w hC => sget_fun a u2 aF ao4 cap5 _ _ hs6 hC.fz) ?_; intro bk x; clear E
  refine qst x (pt f 8) (by rw [wanted_of x (b := false) rfl rfl (by kernel_rfl) (by kernel_rfl)]; rfl) rfl (by kernel_rfl) (fun v122 hC => p0 x (by kernel_rfl)) ?_; intro bl y; clear x
  refine qst y (i6 u1.Key) (by rw [wanted_of y (b := false) rfl rfl (by kernel_rfl) (by kernel_rfl)]; rfl) rfl (by kernel_rfl) (fun v125 hC => ld y hC 0 (g := []) (b := f) (off := 8) (cs := (e23Mb u1)) (ty := 23) rfl (by kernel_rfl) (by kernel_rfl) (by kernel_rfl) (by kernel_rfl) rfl) ?_; intro bm z; clear y
  refine qst z (.bool ((getS a u2) == u1.Key)) (by rw [wanted_of z (b := false) rfl rfl (by kernel_rfl) (by kernel_rfl)]; rfl) rfl (by kernel_rfl) (fun v128 hC => p0 z (by kernel_rfl)) ?_; intro bn ao; clear z
  refine q1 ao 22 (.bool ((getS a u2) == u1.Key)) ?_; intro bo ap; clear ao
  refine q1 ap 6 (.bool ((getS a u2) == u1.Key)) ?_; intro bp aH; clear ap
  refine qnl (aj _ ?_); clear aj ay; intro bq aI; clear l
  refine wp_ret ?_
  refine ra1 aH (.bool ((getS a u2) == u1.Key)) ?_
  exact ⟨(getS a u2) == u1.Key, rfl, aG, aI.below⟩

end Go.Proofs.Ytdndfbamhnchfaa
set_option linter.unusedVariables false
set_option linter.unusedSimpArgs false
set_option maxRecDepth 100000
set_option maxHeartbeats 0
namespace Go.Proofs.Ytdndfbamhnchfaa
open Go.Sy Go.RowKit
abbrev e23Mc (X : Signal) : List Value := [str X.Name, i6 X.Start, i6 X.Size, .bool X.Back, .bool X.Signed, i6 X.Mul, i6 X.Div, i6 X.Add, i6 X.Key]
abbrev e51Mc (X : Message) (A0 : Option Addr) (C0 : Nat) : List Value := [i6 X.ID, .bool X.Long, str X.Name, i6 X.Size, i6 X.Chooser, .slice A0 X.Signals.length C0]
theorem mcheck_walk (u0 : Message) (ao1 : Option Addr) (cap2 : Nat) (Z : Fz) (w : World) (hs3 : SlR tySignal Z ao1 cap2 u0.Signals) (hZ : Z.on w) {K : Int → Prop} (hp : mcheck_vc u0 K) : Calls Try.prog 39 #[.agg #[i6 u0.ID, .bool u0.Long, str u0.Name, i6 u0.Size, i6 u0.Chooser, .slice ao1 u0.Signals.length cap2]] w fun e w' => ∃ r : Int, e = .returned (i6 r) ∧ K r ∧ Below w.heap.size w w' := by
 refine enter0 Try.func39 rfl rfl (by kernel_rfl) ?_; intro a0 b3; have b4 := Mem.start w Z hZ; have ic := Fz.le.refl Z
 have ai := hp (hs3.small); clear hp
 refine sqH ?_; intro fv b5
 refine nw b3 b4 pb (e51Mc u0 ao1 cap2) 51 ?_; intro i a7 id b7 aj; clear b3 b4
 refine s1 b7 2 (i6 0) ?_; intro ie b8; clear b7
 refine nlH (b5 _ _ ?_); clear b5 fv
 refine wp_seq ?_
 refine sqH ?_; intro fw b9
 refine bt b8 aj 2 [0] [] [(14, str u0.Name)] ?_; intro ig ca; clear b8
 refine fc ca aj (sname_fun u0.Name _ _ aj.fz) ?_; intro ih ii cb L; clear ca aj
 refine s1 cb 16 (.bool (!(nameS u0.Name))) ?_; intro ij P; clear cb
 refine nlH (b9 _ _ ?_); clear b9 fw
 refine cd P (t := !(nameS u0.Name)) (by kernel_rfl) (fun a4 => ?_) (fun a4 => ?_)
 ·
  have fx := ai.1 a4; clear ai
  refine sqB P L [] [] [(2, i6 1)] ?_; intro ik fy; clear P
  refine wp_ret ?_
  refine thr ?_
  refine ra1 fy (i6 1) ?_
  exact ⟨1, rfl, fx, L.below⟩
 have ak := ai.2 a4; clear ai
 refine wp_skip ?_
 refine thn ?_
 refine wp_seq ?_
 refine sqH ?_; intro fA cc
 refine bt P L 5 [0, 0] [] [(21, .agg #[i6 u0.ID, .bool u0.Long, .bool false, .bool false, i6 0, .slice none 0 0])] ?_; intro il ce; clear P
 refine fc ce L (fcheckfr_fun (⟨u0.ID, u0.Long, false, false, 0, []⟩ : Frame) none 0 _ _ (SlR.nil _ _) L.fz) ?_; intro im io cf B; clear ce L
 refine s1 cf 3 (i6 (fcheckfr (⟨u0.ID, u0.Long, false, false, 0, []⟩ : Frame))) ?_; intro ip cg; clear cf
 refine nlH (cc _ _ ?_); clear cc fA
 refine sqB cg B [] [] [(24, .bool ((fcheckfr (⟨u0.ID, u0.Long, false, false, 0, []⟩ : Frame)) != 0))] ?_; intro iq Q; clear cg
 refine cd Q (t := (fcheckfr (⟨u0.ID, u0.Long, false, false, 0, []⟩ : Frame)) != 0) (by kernel_rfl) (fun a5 => ?_) (fun a5 => ?_)
 ·
  have fB := ak.1 a5; clear ak
  refine sqB Q B [] [] [(2, i6 (fcheckfr (⟨u0.ID, u0.Long, false, false, 0, []⟩ : Frame)))] ?_; intro ir fC; clear Q
  refine wp_ret ?_
  refine thr ?_
  refine ra1 fC (i6 (fcheckfr (⟨u0.ID, u0.Long, false, false, 0, []⟩ : Frame))) ?_
  exact ⟨(fcheckfr (⟨u0.ID, u0.Long, false, false, 0, []⟩ : Frame)), rfl, fB, B.below⟩
 have al := ak.2 a5; clear ak
 refine wp_skip ?_
 refine thn ?_
 refine wp_seq ?_
 refine sqB Q B [0, 0] [] [(33, .bool ((decide (u0.Size < 0)) || (decide (u0.Size > 8))))] ?_; intro it R; clear Q
 refine cd R (t := (decide (u0.Size < 0)) || (decide (u0.Size > 8))) (by kernel_rfl) (fun a6 => ?_) (fun a6 => ?_)
 ·
  have fD := al.1 a6; clear al
  refine sqB R B [] [] [(2, i6 3)] ?_; intro iu fE; clear R
  refine wp_ret ?_
  refine thr ?_
  refine ra1 fE (i6 3) ?_
  exact ⟨3, rfl, fD, B.below⟩
 have am := al.2 a6; clear al
 refine wp_skip ?_
 refine thn ?_
 refine wp_seq ?_
 refine sqB R B [0] [] [(37, .bool (decide ((u0.Signals.length : Int) > 16)))] ?_; intro iv S; clear R
 refine cd S (t := decide ((u0.Signals.length : Int) > 16)) (by kernel_rfl) (fun a8 => ?_) (fun a8 => ?_)
 ·
  have fF := am.1 a8; clear am
  refine sqB S B [] [] [(2, i6 2)] ?_; intro iw fG; clear S
  refine wp_ret ?_
  refine thr ?_
  refine ra1 fG (i6 2) ?_
  exact ⟨2, rfl, fF, B.below⟩
 have fH := am.2 a8; clear am
 refine wp_skip ?_
 refine thn ?_
 refine wp_seq ?_
 refine sqB S B [0] [] [(39, .slice ao1 u0.Signals.length cap2), (40, i6 (u0.Signals.length : Int)), (41, i6 0)] ?_; intro ch ci; clear S
 refine wp_block ?_
 have ck : Fr 152 [] [⟨1, [], pt i 0⟩, ⟨39, [], .slice ao1 u0.Signals.length cap2⟩, ⟨40, [], i6 (u0.Signals.length : Int)⟩, ⟨41, [], i6 0⟩] ch := ci.reg; clear ci
 have cl : Fr 152 [] [⟨1, [], pt i 0⟩, ⟨39, [], .slice ao1 u0.Signals.length cap2⟩, ⟨40, [], i6 (u0.Signals.length : Int)⟩, ⟨41, [], i6 0⟩] ch := ck.reg; clear ck
 obtain ⟨fI, fJ, fK, fL⟩ := fH
 refine lp (ι := Int) (fun s => [⟨1, [], pt i 0⟩, ⟨39, [], .slice ao1 u0.Signals.length cap2⟩, ⟨40, [], i6 (u0.Signals.length : Int)⟩, ⟨41, [], i6 s⟩]) (fun s => [.row i (e51Mc u0 ao1 cap2) 51]) (fun s => Z) (fun s => fI s) (fun s => fJ s) 0 fK (by exact cl.reg) (by exact B) ?_
 rintro n fM fN fO cm cn
 have co : Fr 152 [] [⟨1, [], pt i 0⟩, ⟨39, [], .slice ao1 u0.Signals.length cap2⟩, ⟨40, [], i6 (u0.Signals.length : Int)⟩, ⟨41, [], i6 n⟩] fN := cm; clear cm cl
 have y : Mem w.heap.size [] w Z [.row i (e51Mc u0 ao1 cap2) 51] Z fO := cn; clear cn B
 have an := fL n fM
 refine sqB co y [] [] [(42, .bool (decide (n < (u0.Signals.length : Int))))] ?_; intro cp U; clear co
 refine wp_seq ?_
 refine cd U (t := decide (n < (u0.Signals.length : Int))) (by kernel_rfl) (fun a9 => ?_) (fun a9 => ?_)
 ·
  have fP := an.1 a9; clear an
  refine wp_skip ?_
  refine thn ?_
  have cq : Fr 152 [] [⟨1, [], pt i 0⟩, ⟨39, [], .slice ao1 u0.Signals.length cap2⟩, ⟨40, [], i6 (u0.Signals.length : Int)⟩, ⟨41, [], i6 n⟩] cp := U.reg; clear U
  have ba : Fr 152 [] [⟨1, [], pt i 0⟩, ⟨39, [], .slice ao1 u0.Signals.length cap2⟩, ⟨40, [], i6 (u0.Signals.length : Int)⟩, ⟨41, [], i6 n⟩] cp := cq.reg; clear cq
  obtain ⟨fQ, fR, fS⟩ := fP
  refine wp_seq_k fun KJ132 hKJ133 => ?_
  have fT : ∀ (_u : Unit), fQ → ∀ a1 w1, Fr 152 [] [⟨1, [], pt i 0⟩, ⟨39, [], .slice ao1 u0.Signals.length cap2⟩, ⟨40, [], i6 (u0.Signals.length : Int)⟩, ⟨41, [], i6 n⟩] a1 → Mem w.heap.size [] w Z [.row i (e51Mc u0 ao1 cap2) 51] Z w1 → KJ132 a1 w1 := by
   rintro _u fU iy iz cr ct; clear ba y
   refine hKJ133 _ _ ?_; clear hKJ133
   have cu := fS  fU
   refine rgB cr ct [] [] [(41, i6 (w64 (n + 1)))] ?_; intro iA fV; clear cr
   refine rd ?_
   exact ⟨w64 (n + 1), cu.1, cu.2, (fV.reg).anyβ _ (by kernel_rfl), ct.keep (List.Sublist.cons_cons _ (List.Sublist.slnil))⟩
  refine wp_block ?_
  refine sqH ?_; intro fW cv
  refine s1 ba 43 (i6 n) ?_; intro iB cw; clear ba
  obtain ⟨fX, cx⟩ := fR
  refine ix cw (T := tySignal) (xs := u0.Signals) hs3 n fX (k := .i64) (e := 23) (bytes := 72) (nog rfl _) rfl (by kernel_rfl) rfl (by kernel_rfl) (by kernel_rfl) (by kernel_rfl) ?_; intro iC iD fY a iE fZ f0 f1 cy; clear cw
  have ao := cx a fZ; clear cx
  obtain rfl : fY = ((e23Mc a) : List Value) := f1
  refine z2 cy y 45 f0 0 9 (e23Mc a) rfl ?_; intro iF cz; clear cy
  refine nw cz y pb [str [], i6 0, i6 0, .bool false, .bool false, i6 0, i6 0, i6 0, i6 0] 23 ?_; intro C iG iH cA cB; clear cz y
  refine s1 cA 4 (i6 n) ?_; intro iI bb; clear cA
  refine sx bb cB 0 (e23Mc a) 0 ?_; intro f2 cC; clear cB
  have ap : Mem w.heap.size [] w Z [.row C (e23Mc a) 23, .row i (e51Mc u0 ao1 cap2) 51] Z f2 := cC; clear cC
  refine nlH (cv _ _ ?_); clear cv fW
  refine wp_seq ?_
  refine sqH ?_; intro f3 cD
  refine bt bb ap 3 [0, 1] [] [(46, .agg (e23Mc a).toArray), (48, i6 u0.Size)] ?_; intro iJ cE; clear bb
  refine fc cE ap (scheck_fun a u0.Size _ _ ap.fz) ?_; intro iK iL cF H; clear cE ap
  refine s1 cF 6 (i6 (checkS a u0.Size)) ?_; intro iM cG; clear cF
  refine nlH (cD _ _ ?_); clear cD f3
  refine sqB cG H [] [] [(51, .bool ((checkS a u0.Size) != 0))] ?_; intro iN V; clear cG
  refine cd V (t := (checkS a u0.Size) != 0) (by kernel_rfl) (fun bc => ?_) (fun bc => ?_)
  ·
   have f4 := ao.1 bc; clear ao
   refine sqB V H [] [] [(2, i6 (checkS a u0.Size))] ?_; intro iO f5; clear V
   refine wp_ret ?_
   refine thr ?_
   refine ibr ?_
   refine thr ?_
   refine thr ?_
   refine ibr ?_
   refine thr ?_
   refine ra1 f5 (i6 (checkS a u0.Size)) ?_
   exact ⟨(checkS a u0.Size), rfl, f4, H.below⟩
  have f6 := ao.2 bc; clear ao
  refine wp_skip ?_
  refine thn ?_
  refine sqH ?_; intro f7 cH
  refine bt V H 3 [1] [] [(54, .slice ao1 u0.Signals.length cap2), (55, i6 n)] ?_; intro iP cI; clear V
  obtain ⟨f8, f9⟩ := f6
  refine slH cI (T := tySignal) (xs := u0.Signals) hs3 n f8 (k' := .i64) (e := 23) (bytes := 72) (nog rfl _) rfl (by kernel_rfl) rfl (by kernel_rfl) (by kernel_rfl) (by kernel_rfl) ?_; intro W X iQ iR ga cJ; clear cI
  refine bt cJ H 2 [] [] [(57, i6 ((u0.Signals.take n.toNat).length : Int)), (58, i6 0)] ?_; intro cK cL; clear cJ
  refine nlH (cH _ _ ?_); clear cH f7
  refine wp_block ?_
  have cM : Fr 152 [] [⟨1, [], pt i 0⟩, ⟨5, [], pt C 0⟩, ⟨39, [], .slice ao1 u0.Signals.length cap2⟩, ⟨40, [], i6 (u0.Signals.length : Int)⟩, ⟨41, [], i6 n⟩, ⟨56, [], .slice W (u0.Signals.take n.toNat).length X⟩, ⟨57, [], i6 ((u0.Signals.take n.toNat).length : Int)⟩, ⟨58, [], i6 0⟩] cK := cL.reg; clear cL
  have cN : Fr 152 [] [⟨1, [], pt i 0⟩, ⟨5, [], pt C 0⟩, ⟨39, [], .slice ao1 u0.Signals.length cap2⟩, ⟨40, [], i6 (u0.Signals.length : Int)⟩, ⟨41, [], i6 n⟩, ⟨56, [], .slice W (u0.Signals.take n.toNat).length X⟩, ⟨57, [], i6 ((u0.Signals.take n.toNat).length : Int)⟩, ⟨58, [], i6 0⟩] cK := cM.reg; clear cM
  obtain ⟨gb, gc, ge, gf⟩ := f9
  refine lp (ι := Int) (fun s => [⟨1, [], pt i 0⟩, ⟨5, [], pt C 0⟩, ⟨39, [], .slice ao1 u0.Signals.length cap2⟩, ⟨40, [], i6 (u0.Signals.length : Int)⟩, ⟨41, [], i6 n⟩, ⟨56, [], .slice W (u0.Signals.take n.toNat).length X⟩, ⟨57, [], i6 ((u0.Signals.take n.toNat).length : Int)⟩, ⟨58, [], i6 s⟩]) (fun s => [.row C (e23Mc a) 23, .row i (e51Mc u0 ao1 cap2) 51]) (fun s => Z) (fun s => gb s) (fun s => gc s) 0 ge (by exact cN.reg) (by exact H) ?_
  rintro G gg gh gi cO cP
  have cQ : Fr 152 [] [⟨1, [], pt i 0⟩, ⟨5, [], pt C 0⟩, ⟨39, [], .slice ao1 u0.Signals.length cap2⟩, ⟨40, [], i6 (u0.Signals.length : Int)⟩, ⟨41, [], i6 n⟩, ⟨56, [], .slice W (u0.Signals.take n.toNat).length X⟩, ⟨57, [], i6 ((u0.Signals.take n.toNat).length : Int)⟩, ⟨58, [], i6 G⟩] gh := cO; clear cO cN
  have Y : Mem w.heap.size [] w Z [.row C (e23Mc a) 23, .row i (e51Mc u0 ao1 cap2) 51] Z gi := cP; clear cP H
  have aq := gf G gg
  refine sqB cQ Y [] [] [(59, .bool (decide (G < ((u0.Signals.take n.toNat).length : Int))))] ?_; intro iS ar; clear cQ
  refine wp_seq ?_
  refine cd ar (t := decide (G < ((u0.Signals.take n.toNat).length : Int))) (by kernel_rfl) (fun bd => ?_) (fun bd => ?_)
  ·
   have gj := aq.1 bd; clear aq
   refine wp_skip ?_
   refine thn ?_
   refine wp_seq ?_
   refine wp_block ?_
   refine sqH ?_; intro gk cR
   obtain ⟨gl, cS⟩ := gj
   refine ix ar (T := tySignal) (xs := u0.Signals.take n.toNat) ga G gl (k := .i64) (e := 23) (bytes := 72) (nog rfl _) rfl (by kernel_rfl) rfl (by kernel_rfl) (by kernel_rfl) (by kernel_rfl) ?_; intro iT iU gm f iV gn go gp cT; clear ar
   have au := cS f gn; clear cS
   obtain rfl : gm = ((e23Mc f) : List Value) := gp
   refine z2 cT Y 61 go 0 9 (e23Mc f) rfl ?_; intro iW cU; clear cT
   refine nw cU Y pb [str [], i6 0, i6 0, .bool false, .bool false, i6 0, i6 0, i6 0, i6 0] 23 ?_; intro cV iX iY be cW; clear cU Y
   refine sx be cW 0 (e23Mc f) 0 ?_; intro gq cX; clear cW
   have F : Mem w.heap.size [] w Z [.row cV (e23Mc f) 23, .row C (e23Mc a) 23, .row i (e51Mc u0 ao1 cap2) 51] Z gq := cX; clear cX
   refine nlH (cR _ _ ?_); clear cR gk
   refine wp_seq ?_
   refine sqB be F [0, 1] [218] [(66, .bool (f.Name == a.Name))] ?_; intro iZ aa; clear be
   refine cd aa (t := f.Name == a.Name) (by kernel_rfl) (fun bf => ?_) (fun bf => ?_)
   ·
    have gr := au.1 bf; clear au
    refine sqB aa F [] [] [(2, i6 9)] ?_; intro i0 gs; clear aa
    refine wp_ret ?_
    refine thr ?_
    refine ibr ?_
    refine thr ?_
    refine thr ?_
    refine ibr ?_
    refine ibr ?_
    refine thr ?_
    refine thr ?_
    refine ibr ?_
    refine thr ?_
    refine ra1 gs (i6 9) ?_
    exact ⟨9, rfl, gr, F.below⟩
   have av := au.2 bf; clear au
   refine wp_skip ?_
   refine thn ?_
   refine sqB aa F [0, 1, 0, 1] [] [(9, .bool (((decide (f.Key ≥ 0)) && (decide (a.Key ≥ 0))) && (f.Key != a.Key)))] ?_; intro i1 cY; clear aa
   refine sqH ?_; intro gt cZ
   refine s1 cY 82 (.bool (((decide (f.Key ≥ 0)) && (decide (a.Key ≥ 0))) && (f.Key != a.Key))) ?_; intro i2 c0; clear cY
   refine s1 c0 83 (.bool (!(((decide (f.Key ≥ 0)) && (decide (a.Key ≥ 0))) && (f.Key != a.Key)))) ?_; intro i3 c1; clear c0
   refine s1 c1 84 (.bool (!(((decide (f.Key ≥ 0)) && (decide (a.Key ≥ 0))) && (f.Key != a.Key)))) ?_; intro i4 c2; clear c1
   have bg := c2.atom ((!(((decide (f.Key ≥ 0)) && (decide (a.Key ≥ 0))) && (f.Key != a.Key))) == true) (by kernel_rfl); clear c2
   refine gd bg (.agg (e23Mc f).toArray) (m := 0) (cj := []) (bj := !(((decide (f.Key ≥ 0)) && (decide (a.Key ≥ 0))) && (f.Key != a.Key))) rfl rfl (by kernel_rfl) rfl (by kernel_rfl) (by kernel_rfl) (by kernel_rfl) (fun hg => lda bg F 0 (g := [0]) (b := cV) (off := 0) (k := 9) (cs := (e23Mc f)) (vs := (e23Mc f)) (ty := 23) rfl (by kernel_rfl) (by kernel_rfl) (by kernel_rfl) (by kernel_rfl) (by kernel_rfl) hg) ?_; intro i5 bh; clear bg
   refine gd bh (.agg (e23Mc a).toArray) (m := 0) (cj := []) (bj := !(((decide (f.Key ≥ 0)) && (decide (a.Key ≥ 0))) && (f.Key != a.Key))) rfl rfl (by kernel_rfl) rfl (by kernel_rfl) (by kernel_rfl) (by kernel_rfl) (fun hg => lda bh F 1 (g := [0]) (b := C) (off := 0) (k := 9) (cs := (e23Mc a)) (vs := (e23Mc a)) (ty := 23) rfl (by kernel_rfl) (by kernel_rfl) (by kernel_rfl) (by kernel_rfl) (by kernel_rfl) hg) ?_; intro i7 c3; clear bh
   refine gcl c3 F (.bool (overS f a)) 15 #[.agg (e23Mc f).toArray, .agg (e23Mc a).toArray] (m := 0) (cj := []) (bj := !(((decide (f.Key ≥ 0)) && (decide (a.Key ≥ 0))) && (f.Key != a.Key))) rfl rfl (by kernel_rfl) rfl (by kernel_rfl) (by kernel_rfl) (by kernel_rfl) (fun _ => by kernel_rfl) (fun hg => sover_fun f a _ _ F.fz) ?_; intro i8 i9 bi aw; clear c3 F
   refine st bi (.bool ((!(((decide (f.Key ≥ 0)) && (decide (a.Key ≥ 0))) && (f.Key != a.Key))) && (overS f a))) (nog rfl _) rfl (by kernel_rfl) (pk_and bi (g := []) (m := 0) (b := !(((decide (f.Key ≥ 0)) && (decide (a.Key ≥ 0))) && (f.Key != a.Key))) (v := (overS f a)) rfl (by kernel_rfl) (by kernel_rfl) (by kernel_rfl) rfl) ?_; intro c4 ab; clear bi
   refine nlH (cZ _ _ ?_); clear cZ gt
   refine cd ab (t := (!(((decide (f.Key ≥ 0)) && (decide (a.Key ≥ 0))) && (f.Key != a.Key))) && (overS f a)) (by kernel_rfl) (fun bk => ?_) (fun bk => ?_)
   ·
    have gu := av.1 bk; clear av
    have c5 : Fr 152 [] [] c4 := ab.reg; clear ab
    refine sqB c5 aw [] [] [(2, i6 10)] ?_; intro ja gv; clear c5
    refine wp_ret ?_
    refine ibr ?_
    refine thr ?_
    refine thr ?_
    refine ibr ?_
    refine ibr ?_
    refine thr ?_
    refine thr ?_
    refine ibr ?_
    refine thr ?_
    refine ra1 gv (i6 10) ?_
    exact ⟨10, rfl, gu, aw.below⟩
   have c6 := av.2 bk; clear av
   refine wp_skip ?_
   refine ibn ?_
   refine thn ?_
   have c7 : Fr 152 [] [⟨1, [], pt i 0⟩, ⟨5, [], pt C 0⟩, ⟨39, [], .slice ao1 u0.Signals.length cap2⟩, ⟨40, [], i6 (u0.Signals.length : Int)⟩, ⟨41, [], i6 n⟩, ⟨56, [], .slice W (u0.Signals.take n.toNat).length X⟩, ⟨57, [], i6 ((u0.Signals.take n.toNat).length : Int)⟩, ⟨58, [], i6 G⟩] c4 := ab.reg; clear ab
   refine rgB c7 aw [] [] [(58, i6 (w64 (G + 1)))] ?_; intro jb gw; clear c7
   refine rd ?_
   exact ⟨w64 (G + 1), c6.1, c6.2, (gw.reg).anyβ _ (by kernel_rfl), aw.keep (List.Sublist.cons _ (List.Sublist.cons_cons _ (List.Sublist.cons_cons _ (List.Sublist.slnil))))⟩
  have gx := aq.2 bd; clear aq
  refine wp_exit ?_
  refine thx ?_
  refine thx ?_
  refine ibx ?_
  refine ibn ?_
  refine rd ?_
  exact fT () gx _ _ ((ar.reg).anyβ _ (by kernel_rfl)) (Y.keep (List.Sublist.cons _ (List.Sublist.cons_cons _ (List.Sublist.slnil))))
 have ax := an.2 a9; clear an
 refine wp_exit ?_
 refine thx ?_
 refine thx ?_
 refine ibx ?_
 refine thn ?_
 refine wp_seq ?_
 refine sqB U y [0, 0, 0] [] [(101, .bool ((decide (u0.Chooser < (-1))) || (decide (u0.Chooser ≥ (u0.Signals.length : Int)))))] ?_; intro jc ac; clear U
 refine cd ac (t := (decide (u0.Chooser < (-1))) || (decide (u0.Chooser ≥ (u0.Signals.length : Int)))) (by kernel_rfl) (fun bl => ?_) (fun bl => ?_)
 ·
  have gy := ax.1 bl; clear ax
  refine sqB ac y [] [] [(2, i6 8)] ?_; intro jd gz; clear ac
  refine wp_ret ?_
  refine thr ?_
  refine ra1 gz (i6 8) ?_
  exact ⟨8, rfl, gy, y.below⟩
 have ay := ax.2 bl; clear ax
 refine wp_skip ?_
 refine thn ?_
 refine wp_seq ?_
 refine sqB ac y [0] [] [(104, .bool (decide (u0.Chooser ≥ 0)))] ?_; intro je ad; clear ac
 refine cd ad (t := decide (u0.Chooser ≥ 0)) (by kernel_rfl) (fun bm => ?_) (fun bm => ?_)
 ·
  have gA := ay.1 bm; clear ay
  refine sqH ?_; intro gB c8
  refine bt ad y 4 [0, 0] [] [(106, .slice ao1 u0.Signals.length cap2), (108, i6 u0.Chooser)] ?_; intro jf c9; clear ad
  obtain ⟨gC, da⟩ := gA
  refine ix c9 (T := tySignal) (xs := u0.Signals) hs3 u0.Chooser gC (k := .i64) (e := 23) (bytes := 72) (nog rfl _) rfl (by kernel_rfl) rfl (by kernel_rfl) (by kernel_rfl) (by kernel_rfl) ?_; intro jg jh gD h ji gE gF gG db; clear c9
  have az := da h gE; clear da
  obtain rfl : gD = ((e23Mc h) : List Value) := gG
  refine z2 db y 110 gF 0 9 (e23Mc h) rfl ?_; intro jj dc; clear db
  refine nw dc y pb [str [], i6 0, i6 0, .bool false, .bool false, i6 0, i6 0, i6 0, i6 0] 23 ?_; intro ae jk jl bn dd; clear dc y
  refine sx bn dd 0 (e23Mc h) 0 ?_; intro gH de; clear dd
  have M : Mem w.heap.size [] w Z [.row ae (e23Mc h) 23, .row i (e51Mc u0 ao1 cap2) 51] Z gH := de; clear de
  refine nlH (c8 _ _ ?_); clear c8 gB
  refine sqB bn M [0, 0, 0] [] [(122, .bool ((h.Signed || (decide (h.Key ≥ 0))) || (decide (h.Size > 8))))] ?_; intro jm af; clear bn
  refine cd af (t := (h.Signed || (decide (h.Key ≥ 0))) || (decide (h.Size > 8))) (by kernel_rfl) (fun bo => ?_) (fun bo => ?_)
  ·
   have gI := az.1 bo; clear az
   refine sqB af M [] [] [(2, i6 4)] ?_; intro jn gJ; clear af
   refine wp_ret ?_
   refine thr ?_
   refine ra1 gJ (i6 4) ?_
   exact ⟨4, rfl, gI, M.below⟩
  have gK := az.2 bo; clear az
  refine wp_skip ?_
  refine thn ?_
  refine wp_seq ?_
  refine sqB af M [1] [] [(124, .slice ao1 u0.Signals.length cap2), (125, i6 (u0.Signals.length : Int)), (126, i6 0)] ?_; intro df dg; clear af
  refine wp_block ?_
  have dh : Fr 152 [] [⟨1, [], pt i 0⟩, ⟨124, [], .slice ao1 u0.Signals.length cap2⟩, ⟨125, [], i6 (u0.Signals.length : Int)⟩, ⟨126, [], i6 0⟩] df := dg.reg; clear dg
  have di : Fr 152 [] [⟨1, [], pt i 0⟩, ⟨124, [], .slice ao1 u0.Signals.length cap2⟩, ⟨125, [], i6 (u0.Signals.length : Int)⟩, ⟨126, [], i6 0⟩] df := dh.reg; clear dh
  obtain ⟨gL, gM, gN, gO⟩ := gK
  refine lp (ι := Int) (fun s => [⟨1, [], pt i 0⟩, ⟨124, [], .slice ao1 u0.Signals.length cap2⟩, ⟨125, [], i6 (u0.Signals.length : Int)⟩, ⟨126, [], i6 s⟩]) (fun s => [.row ae (e23Mc h) 23, .row i (e51Mc u0 ao1 cap2) 51]) (fun s => Z) (fun s => gL s) (fun s => gM s) 0 gN (by exact di.reg) (by exact M) ?_
  rintro q gP gQ gR dj dk
  have dl : Fr 152 [] [⟨1, [], pt i 0⟩, ⟨124, [], .slice ao1 u0.Signals.length cap2⟩, ⟨125, [], i6 (u0.Signals.length : Int)⟩, ⟨126, [], i6 q⟩] gQ := dj; clear dj di
  have I : Mem w.heap.size [] w Z [.row ae (e23Mc h) 23, .row i (e51Mc u0 ao1 cap2) 51] Z gR := dk; clear dk M
  have aA := gO q gP
  refine sqB dl I [] [] [(127, .bool (decide (q < (u0.Signals.length : Int))))] ?_; intro dm ag; clear dl
  refine wp_seq ?_
  refine cd ag (t := decide (q < (u0.Signals.length : Int))) (by kernel_rfl) (fun bp => ?_) (fun bp => ?_)
  ·
   have gS := aA.1 bp; clear aA
   refine wp_skip ?_
   refine thn ?_
   have dn : Fr 152 [] [⟨1, [], pt i 0⟩, ⟨124, [], .slice ao1 u0.Signals.length cap2⟩, ⟨125, [], i6 (u0.Signals.length : Int)⟩, ⟨126, [], i6 q⟩] dm := ag.reg; clear ag
   have bq : Fr 152 [] [⟨1, [], pt i 0⟩, ⟨124, [], .slice ao1 u0.Signals.length cap2⟩, ⟨125, [], i6 (u0.Signals.length : Int)⟩, ⟨126, [], i6 q⟩] dm := dn.reg; clear dn
   obtain ⟨gT, gU, gV⟩ := gS
   refine wp_seq_k fun KJ481 hKJ482 => ?_
   have dp : ∀ (_u : Unit), gT → ∀ a1 w1, Fr 152 [] [⟨1, [], pt i 0⟩, ⟨124, [], .slice ao1 u0.Signals.length cap2⟩, ⟨125, [], i6 (u0.Signals.length : Int)⟩, ⟨126, [], i6 q⟩] a1 → Mem w.heap.size [] w Z [.row ae (e23Mc h) 23, .row i (e51Mc u0 ao1 cap2) 51] Z w1 → KJ481 a1 w1 := by
    rintro _u gW jo jp dq dr; clear bq I
    refine hKJ482 _ _ ?_; clear hKJ482
    have ds := gV  gW
    refine rgB dq dr [] [] [(126, i6 (w64 (q + 1)))] ?_; intro jq gX; clear dq
    refine rd ?_
    exact ⟨w64 (q + 1), ds.1, ds.2, (gX.reg).anyβ _ (by kernel_rfl), dr.keep (List.Sublist.cons_cons _ (List.Sublist.cons_cons _ (List.Sublist.slnil)))⟩
   refine wp_block ?_
   refine sqH ?_; intro gY dt
   obtain ⟨gZ, du⟩ := gU
   refine ix bq (T := tySignal) (xs := u0.Signals) hs3 q gZ (k := .i64) (e := 23) (bytes := 72) (nog rfl _) rfl (by kernel_rfl) rfl (by kernel_rfl) (by kernel_rfl) (by kernel_rfl) ?_; intro jr js g0 j jt g1 g2 g3 dv; clear bq
   have aB := du j g1; clear du
   obtain rfl : g0 = ((e23Mc j) : List Value) := g3
   refine z2 dv I 129 g2 0 9 (e23Mc j) rfl ?_; intro ju dw; clear dv
   refine nw dw I pb [str [], i6 0, i6 0, .bool false, .bool false, i6 0, i6 0, i6 0, i6 0] 23 ?_; intro D g4 jv br dx; clear dw I
   refine sx br dx 0 (e23Mc j) 0 ?_; intro g5 dy; clear dx
   have aC : Mem w.heap.size [] w Z [.row D (e23Mc j) 23, .row ae (e23Mc h) 23, .row i (e51Mc u0 ao1 cap2) 51] Z g5 := dy; clear dy
   refine nlH (dt _ _ ?_); clear dt gY
   have dz : Fr 152 [] [⟨1, [], pt i 0⟩, ⟨12, [], pt D 0⟩, ⟨124, [], .slice ao1 u0.Signals.length cap2⟩, ⟨125, [], i6 (u0.Signals.length : Int)⟩, ⟨126, [], i6 q⟩] g4 := br.reg; clear br
   refine sqQH mixed (by kernel_rfl) aC ?_; intro bs N
   refine q1 dz 130 (pt D 8) ?_; intro jw bu; clear dz
   refine qst bu (i6 j.Key) (nog rfl _) rfl (by kernel_rfl) (fun v523 hC => ld bu hC 0 (g := []) (b := D) (off := 8) (cs := (e23Mc j)) (ty := 23) rfl (by kernel_rfl) (by kernel_rfl) (by kernel_rfl) (by kernel_rfl) rfl) ?_; intro jx dA; clear bu
   refine q1 dA 132 (.bool (decide (j.Key ≥ 0))) ?_; intro jy dB; clear dA
   refine q1 dB 133 (.bool (decide (j.Key ≥ 0))) ?_; intro jz dC; clear dB
   have bv := dC.atom ((decide (j.Key ≥ 0)) == true) (by kernel_rfl); clear dC
   refine qgd bv (pt i 4) (m := 0) (cj := []) (bj := decide (j.Key ≥ 0)) rfl rfl (by kernel_rfl) rfl (by kernel_rfl) (by kernel_rfl) (by kernel_rfl) (fun hg => qat_ok (fun v533 hC => pu bv (g := [0]) (by kernel_rfl) hg)) ?_; intro jA bw; clear bv
   refine qgd bw (i6 u0.Chooser) (m := 0) (cj := []) (bj := decide (j.Key ≥ 0)) rfl rfl (by kernel_rfl) rfl (by kernel_rfl) (by kernel_rfl) (by kernel_rfl) (fun hg => qat_ok (fun v536 hC => ld bw hC 2 (g := [0]) (b := i) (off := 4) (cs := (e51Mc u0 ao1 cap2)) (ty := 51) rfl (by kernel_rfl) (by kernel_rfl) (by kernel_rfl) (by kernel_rfl) hg)) ?_; intro jB bx; clear bw
   refine qgd bx (.bool (decide (u0.Chooser < 0))) (m := 0) (cj := []) (bj := decide (j.Key ≥ 0)) rfl rfl (by kernel_rfl) rfl (by kernel_rfl) (by kernel_rfl) (by kernel_rfl) (fun hg => qat_ok (fun v539 hC => pu bx (g := [0]) (by kernel_rfl) hg)) ?_; intro jC bz; clear bx
   refine qgd bz (.bool (decide (u0.Chooser < 0))) (m := 0) (cj := []) (bj := decide (j.Key ≥ 0)) rfl rfl (by kernel_rfl) rfl (by kernel_rfl) (by kernel_rfl) (by kernel_rfl) (fun hg => qat_ok (fun v542 hC => pu bz (g := [0]) (by kernel_rfl) hg)) ?_; intro jD dD; clear bz
   have bA := dD.atom ((decide (u0.Chooser < 0)) == false) (by kernel_rfl); clear dD
   refine qgd bA (pt D 8) (m := 1) (cj := [0]) (bj := decide (u0.Chooser < 0)) rfl rfl (by kernel_rfl) rfl (by kernel_rfl) (by kernel_rfl) (by kernel_rfl) (fun hg => qat_ok (fun v546 hC => pu bA (g := [1, 0]) (by kernel_rfl) hg)) ?_; intro jE bB; clear bA
   refine qgd bB (i6 j.Key) (m := 1) (cj := [0]) (bj := decide (u0.Chooser < 0)) rfl rfl (by kernel_rfl) rfl (by kernel_rfl) (by kernel_rfl) (by kernel_rfl) (fun hg => qat_ok (fun v549 hC => ld bB hC 0 (g := [1, 0]) (b := D) (off := 8) (cs := (e23Mc j)) (ty := 23) rfl (by kernel_rfl) (by kernel_rfl) (by kernel_rfl) (by kernel_rfl) hg)) ?_; intro jF bC; clear bB
   refine qgd bC (pt i 5) (m := 1) (cj := [0]) (bj := decide (u0.Chooser < 0)) rfl rfl (by kernel_rfl) rfl (by kernel_rfl) (by kernel_rfl) (by kernel_rfl) (fun hg => qat_ok (fun v552 hC => pu bC (g := [1, 0]) (by kernel_rfl) hg)) ?_; intro jG bD; clear bC
   refine qgd bD (.slice ao1 u0.Signals.length cap2) (m := 1) (cj := [0]) (bj := decide (u0.Chooser < 0)) rfl rfl (by kernel_rfl) rfl (by kernel_rfl) (by kernel_rfl) (by kernel_rfl) (fun hg => qat_ok (fun v555 hC => ld bD hC 2 (g := [1, 0]) (b := i) (off := 5) (cs := (e51Mc u0 ao1 cap2)) (ty := 51) rfl (by kernel_rfl) (by kernel_rfl) (by kernel_rfl) (by kernel_rfl) hg)) ?_; intro jH bE; clear bD
   refine qgd bE (pt i 4) (m := 1) (cj := [0]) (bj := decide (u0.Chooser < 0)) rfl rfl (by kernel_rfl) rfl (by kernel_rfl) (by kernel_rfl) (by kernel_rfl) (fun hg => qat_ok (fun v558 hC => pu bE (g := [1, 0]) (by kernel_rfl) hg)) ?_; intro jI bF; clear bE
   refine qgd bF (i6 u0.Chooser) (m := 1) (cj := [0]) (bj := decide (u0.Chooser < 0)) rfl rfl (by kernel_rfl) rfl (by kernel_rfl) (by kernel_rfl) (by kernel_rfl) (fun hg => qat_ok (fun v561 hC => ld bF hC 2 (g := [1, 0]) (b := i) (off := 4) (cs := (e51Mc u0 ao1 cap2)) (ty := 51) rfl (by kernel_rfl) (by kernel_rfl) (by kernel_rfl) (by kernel_rfl) hg)) ?_; intro jJ aD; clear bF
   rcases Bool.eq_false_or_eq_true (decide (j.Key ≥ 0)) with o | o
   ·
    have aE := aB.1 o; clear aB
    have dE := aD.reval (d := 133) (c := []) (v := .bool (decide (j.Key ≥ 0))) (by kernel_rfl) (.bool true) (by rw [o]); clear aD
    have dF := dE.setc (d := 134) (c := [0]) (v := pt i 4) (by kernel_rfl) (v' := pt i 4) (by rw [o]; kernel_rfl); clear dE
    have dG := dF.setc (d := 135) (c := [0]) (v := i6 u0.Chooser) (by kernel_rfl) (v' := i6 u0.Chooser) (by rw [o]; kernel_rfl); clear dF
    have dH := dG.setc (d := 136) (c := [0]) (v := .bool (decide (u0.Chooser < 0))) (by kernel_rfl) (v' := .bool (decide (u0.Chooser < 0))) (by rw [o]; kernel_rfl); clear dG
    have aF := dH.setc (d := 137) (c := [0]) (v := .bool (decide (u0.Chooser < 0))) (by kernel_rfl) (v' := .bool (decide (u0.Chooser < 0))) (by rw [o]; kernel_rfl); clear dH
    rcases Bool.eq_false_or_eq_true (decide (u0.Chooser < 0)) with u | u
    ·
     have g6 := aE.1 u; clear aE
     have dI := aF.reval (d := 137) (c := []) (v := .bool (decide (u0.Chooser < 0))) (by kernel_rfl) (.bool true) (by rw [u]); clear aF
     have dJ := dI.setc (d := 138) (c := [1, 0]) (v := pt D 8) (by kernel_rfl) (v' := undef) (by rw [u, o]; kernel_rfl); clear dI
     have dK := dJ.setc (d := 139) (c := [1, 0]) (v := i6 j.Key) (by kernel_rfl) (v' := undef) (by rw [u, o]; kernel_rfl); clear dJ
     have dL := dK.setc (d := 140) (c := [1, 0]) (v := pt i 5) (by kernel_rfl) (v' := undef) (by rw [u, o]; kernel_rfl); clear dK
     have dM := dL.setc (d := 141) (c := [1, 0]) (v := .slice ao1 u0.Signals.length cap2) (by kernel_rfl) (v' := undef) (by rw [u, o]; kernel_rfl); clear dL
     have dN := dM.setc (d := 142) (c := [1, 0]) (v := pt i 4) (by kernel_rfl) (v' := undef) (by rw [u, o]; kernel_rfl); clear dM
     have dO := dN.setc (d := 143) (c := [1, 0]) (v := i6 u0.Chooser) (by kernel_rfl) (v' := undef) (by rw [u, o]; kernel_rfl); clear dN
     refine qsk dO (b := true) rfl rfl (by kernel_rfl) (by kernel_rfl) rfl rfl (by kernel_rfl) ?_; intro jK dP; clear dO
     refine qsk dP (b := true) rfl rfl (by kernel_rfl) (by kernel_rfl) rfl rfl (by kernel_rfl) ?_; intro jL dQ; clear dP
     refine qsk dQ (b := true) rfl rfl (by kernel_rfl) (by kernel_rfl) rfl rfl (by kernel_rfl) ?_; intro jM dR; clear dQ
     refine qsk dR (b := true) rfl rfl (by kernel_rfl) (by kernel_rfl) rfl rfl (by kernel_rfl) ?_; intro jN dS; clear dR
     refine qsk dS (b := true) rfl rfl (by kernel_rfl) (by kernel_rfl) rfl rfl (by kernel_rfl) ?_; intro jO aG; clear dS
     refine qst aG (.bool true) (by rw [wanted_of aG (b := true) rfl rfl (by kernel_rfl) (by kernel_rfl)]; rfl) rfl (by kernel_rfl) (fun v590 hC => p0 aG (by kernel_rfl)) ?_; intro jP dT; clear aG
     refine q1 dT 150 (.bool true) ?_; intro g7 bG; clear dT
     refine qnl (N _ ?_); clear N bs; intro jQ dU; clear aC
     refine cdT bG (by kernel_rfl) ?_
     have dV : Fr 152 [] [] g7 := bG.reg; clear bG
     refine sqB dV dU [] [] [(2, i6 4)] ?_; intro jR g8; clear dV
     refine wp_ret ?_
     refine ibr ?_
     refine thr ?_
     refine thr ?_
     refine ibr ?_
     refine thr ?_
     refine ra1 g8 (i6 4) ?_
     exact ⟨4, rfl, g6, dU.below⟩
    have g9 := aE.2 u; clear aE
    have dW := aF.reval (d := 137) (c := []) (v := .bool (decide (u0.Chooser < 0))) (by kernel_rfl) (.bool false) (by rw [u]); clear aF
    have dX := dW.setc (d := 138) (c := [1, 0]) (v := pt D 8) (by kernel_rfl) (v' := pt D 8) (by rw [u, o]; kernel_rfl); clear dW
    have dY := dX.setc (d := 139) (c := [1, 0]) (v := i6 j.Key) (by kernel_rfl) (v' := i6 j.Key) (by rw [u, o]; kernel_rfl); clear dX
    have dZ := dY.setc (d := 140) (c := [1, 0]) (v := pt i 5) (by kernel_rfl) (v' := pt i 5) (by rw [u, o]; kernel_rfl); clear dY
    have d0 := dZ.setc (d := 141) (c := [1, 0]) (v := .slice ao1 u0.Signals.length cap2) (by kernel_rfl) (v' := .slice ao1 u0.Signals.length cap2) (by rw [u, o]; kernel_rfl); clear dZ
    have d1 := d0.setc (d := 142) (c := [1, 0]) (v := pt i 4) (by kernel_rfl) (v' := pt i 4) (by rw [u, o]; kernel_rfl); clear d0
    have bH := d1.setc (d := 143) (c := [1, 0]) (v := i6 u0.Chooser) (by kernel_rfl) (v' := i6 u0.Chooser) (by rw [u, o]; kernel_rfl); clear d1
    obtain ⟨ha, d2⟩ := g9
    refine qix bH (T := tySignal) (xs := u0.Signals) hs3 u0.Chooser ha (k := .i64) (e := 23) (bytes := 72) (by rw [wanted_of bH (b := false) rfl rfl (by kernel_rfl) (by kernel_rfl)]; rfl) rfl (by kernel_rfl) rfl (by kernel_rfl) (by kernel_rfl) (by kernel_rfl) ?_; intro hb hc hd z jS he hf hh aH; clear bH
    have hi := d2 z he; clear d2
    obtain rfl : hd = ((e23Mc z) : List Value) := hh
    refine qst aH (.pointer (some ⟨hb, hc + 2, none⟩)) (by rw [wanted_of aH (b := false) rfl rfl (by kernel_rfl) (by kernel_rfl)]; rfl) rfl (by kernel_rfl) (fun v623 hC => p0 aH (by kernel_rfl)) ?_; intro jT aI; clear aH
    refine qst aI (i6 z.Size) (by rw [wanted_of aI (b := false) rfl rfl (by kernel_rfl) (by kernel_rfl)]; rfl) rfl (by kernel_rfl) (fun v626 hC => lz aI hC.fz hf 2 (g := []) rfl (by kernel_rfl) (by kernel_rfl) (by kernel_rfl) rfl) ?_; intro jU aJ; clear aI
    obtain ⟨hj, aK⟩ := hi
    refine qst aJ (i6 (bShr .i64 j.Key z.Size)) (by rw [wanted_of aJ (b := false) rfl rfl (by kernel_rfl) (by kernel_rfl)]; rfl) rfl (by kernel_rfl) (fun v629 hC => shr_run aJ (g := []) (k' := .i64) rfl (by kernel_rfl) (by kernel_rfl) hj rfl) ?_; intro jV aL; clear aJ
    refine qst aL (.bool ((bShr .i64 j.Key z.Size) != 0)) (by rw [wanted_of aL (b := false) rfl rfl (by kernel_rfl) (by kernel_rfl)]; rfl) rfl (by kernel_rfl) (fun v634 hC => p0 aL (by kernel_rfl)) ?_; intro jW aM; clear aL
    refine qst aM (.bool ((bShr .i64 j.Key z.Size) != 0)) (by rw [wanted_of aM (b := true) rfl rfl (by kernel_rfl) (by kernel_rfl)]; rfl) rfl (by kernel_rfl) (fun v637 hC => p0 aM (by kernel_rfl)) ?_; intro jX d3; clear aM
    refine q1 d3 150 (.bool ((bShr .i64 j.Key z.Size) != 0)) ?_; intro hk aN; clear d3
    refine qnl (N _ ?_); clear N bs; intro jY bI; clear aC
    refine cd aN (t := (bShr .i64 j.Key z.Size) != 0) (by kernel_rfl) (fun bJ => ?_) (fun bJ => ?_)
    ·
     have hl := aK.1 bJ; clear aK
     have d4 : Fr 152 [] [] hk := aN.reg; clear aN
     refine sqB d4 bI [] [] [(2, i6 4)] ?_; intro jZ hm; clear d4
     refine wp_ret ?_
     refine ibr ?_
     refine thr ?_
     refine thr ?_
     refine ibr ?_
     refine thr ?_
     refine ra1 hm (i6 4) ?_
     exact ⟨4, rfl, hl, bI.below⟩
    have hn := aK.2 bJ; clear aK
    refine wp_skip ?_
    refine ibn ?_
    refine rd ?_
    exact dp () hn _ _ ((aN.reg).anyβ _ (by kernel_rfl)) (bI.keep (List.Sublist.cons _ (List.Sublist.cons_cons _ (List.Sublist.cons_cons _ (List.Sublist.slnil)))))
   have ho := aB.2 o; clear aB
   have d5 := aD.reval (d := 133) (c := []) (v := .bool (decide (j.Key ≥ 0))) (by kernel_rfl) (.bool false) (by rw [o]); clear aD
   have d6 := d5.setc (d := 134) (c := [0]) (v := pt i 4) (by kernel_rfl) (v' := undef) (by rw [o]; kernel_rfl); clear d5
   have d7 := d6.setc (d := 135) (c := [0]) (v := i6 u0.Chooser) (by kernel_rfl) (v' := undef) (by rw [o]; kernel_rfl); clear d6
   have d8 := d7.setc (d := 136) (c := [0]) (v := .bool (decide (u0.Chooser < 0))) (by kernel_rfl) (v' := undef) (by rw [o]; kernel_rfl); clear d7
   have d9 := d8.setc (d := 137) (c := [0]) (v := .bool (decide (u0.Chooser < 0))) (by kernel_rfl) (v' := undef) (by rw [o]; kernel_rfl); clear d8
   have ea := d9.setu (d := 138) (c := [1, 0]) (v := pt D 8) (by kernel_rfl) 0 (by kernel_rfl) (by rw [o]; kernel_rfl); clear d9
   have eb := ea.setu (d := 139) (c := [1, 0]) (v := i6 j.Key) (by kernel_rfl) 0 (by kernel_rfl) (by rw [o]; kernel_rfl); clear ea
   have ec := eb.setu (d := 140) (c := [1, 0]) (v := pt i 5) (by kernel_rfl) 0 (by kernel_rfl) (by rw [o]; kernel_rfl); clear eb
   have ed := ec.setu (d := 141) (c := [1, 0]) (v := .slice ao1 u0.Signals.length cap2) (by kernel_rfl) 0 (by kernel_rfl) (by rw [o]; kernel_rfl); clear ec
   have ee := ed.setu (d := 142) (c := [1, 0]) (v := pt i 4) (by kernel_rfl) 0 (by kernel_rfl) (by rw [o]; kernel_rfl); clear ed
   have ef := ee.setu (d := 143) (c := [1, 0]) (v := i6 u0.Chooser) (by kernel_rfl) 0 (by kernel_rfl) (by rw [o]; kernel_rfl); clear ee
   refine qsku ef rfl rfl (by kernel_rfl) (by kernel_rfl) rfl (by kernel_rfl) ?_; intro j0 eg; clear ef
   refine qsku eg rfl rfl (by kernel_rfl) (by kernel_rfl) rfl (by kernel_rfl) ?_; intro j1 eh; clear eg
   refine qsku eh rfl rfl (by kernel_rfl) (by kernel_rfl) rfl (by kernel_rfl) ?_; intro j2 ei; clear eh
   refine qsku ei rfl rfl (by kernel_rfl) (by kernel_rfl) rfl (by kernel_rfl) ?_; intro j3 ej; clear ei
   refine qsku ej rfl rfl (by kernel_rfl) (by kernel_rfl) rfl (by kernel_rfl) ?_; intro j4 ek; clear ej
   refine qsk ek (b := false) rfl rfl (by kernel_rfl) (by kernel_rfl) rfl rfl (by kernel_rfl) ?_; intro j5 el; clear ek
   refine q1 el 150 (.bool false) ?_; intro j6 em; clear el
   refine qnl (N _ ?_); clear N bs; intro j7 hq; clear aC
   refine cdF em (by kernel_rfl) ?_
   refine wp_skip ?_
   refine ibn ?_
   refine rd ?_
   exact dp () ho _ _ ((em.reg).anyβ _ (by kernel_rfl)) (hq.keep (List.Sublist.cons _ (List.Sublist.cons_cons _ (List.Sublist.cons_cons _ (List.Sublist.slnil)))))
  have hr := aA.2 bp; clear aA
  refine wp_exit ?_
  refine thx ?_
  refine thx ?_
  refine ibx ?_
  refine thn ?_
  refine sqB ag I [] [] [(2, i6 0)] ?_; intro j8 hs; clear ag
  refine wp_ret ?_
  refine ra1 hs (i6 0) ?_
  exact ⟨0, rfl, hr, I.below⟩
 have ht := ay.2 bm; clear ay
 refine wp_skip ?_
 refine thn ?_
 refine wp_seq ?_
 refine sqB ad y [0] [] [(124, .slice ao1 u0.Signals.length cap2), (125, i6 (u0.Signals.length : Int)), (126, i6 0)] ?_; intro en eo; clear ad
 refine wp_block ?_
 have ep : Fr 152 [] [⟨1, [], pt i 0⟩, ⟨124, [], .slice ao1 u0.Signals.length cap2⟩, ⟨125, [], i6 (u0.Signals.length : Int)⟩, ⟨126, [], i6 0⟩] en := eo.reg; clear eo
 have eq : Fr 152 [] [⟨1, [], pt i 0⟩, ⟨124, [], .slice ao1 u0.Signals.length cap2⟩, ⟨125, [], i6 (u0.Signals.length : Int)⟩, ⟨126, [], i6 0⟩] en := ep.reg; clear ep
 obtain ⟨hu, hv, hw, hx⟩ := ht
 refine lp (ι := Int) (fun s => [⟨1, [], pt i 0⟩, ⟨124, [], .slice ao1 u0.Signals.length cap2⟩, ⟨125, [], i6 (u0.Signals.length : Int)⟩, ⟨126, [], i6 s⟩]) (fun s => [.row i (e51Mc u0 ao1 cap2) 51]) (fun s => Z) (fun s => hu s) (fun s => hv s) 0 hw (by exact eq.reg) (by exact y) ?_
 rintro q hy hz hA er es
 have et : Fr 152 [] [⟨1, [], pt i 0⟩, ⟨124, [], .slice ao1 u0.Signals.length cap2⟩, ⟨125, [], i6 (u0.Signals.length : Int)⟩, ⟨126, [], i6 q⟩] hz := er; clear er eq
 have J : Mem w.heap.size [] w Z [.row i (e51Mc u0 ao1 cap2) 51] Z hA := es; clear es y
 have aO := hx q hy
 refine sqB et J [] [] [(127, .bool (decide (q < (u0.Signals.length : Int))))] ?_; intro eu ah; clear et
 refine wp_seq ?_
 refine cd ah (t := decide (q < (u0.Signals.length : Int))) (by kernel_rfl) (fun bK => ?_) (fun bK => ?_)
 ·
  have hB := aO.1 bK; clear aO
  refine wp_skip ?_
  refine thn ?_
  have ev : Fr 152 [] [⟨1, [], pt i 0⟩, ⟨124, [], .slice ao1 u0.Signals.length cap2⟩, ⟨125, [], i6 (u0.Signals.length : Int)⟩, ⟨126, [], i6 q⟩] eu := ah.reg; clear ah
  have bL : Fr 152 [] [⟨1, [], pt i 0⟩, ⟨124, [], .slice ao1 u0.Signals.length cap2⟩, ⟨125, [], i6 (u0.Signals.length : Int)⟩, ⟨126, [], i6 q⟩] eu := ev.reg; clear ev
  obtain ⟨hD, hE, hF⟩ := hB
  refine wp_seq_k fun KJ719 hKJ720 => ?_
  have ew : ∀ (_u : Unit), hD → ∀ a1 w1, Fr 152 [] [⟨1, [], pt i 0⟩, ⟨124, [], .slice ao1 u0.Signals.length cap2⟩, ⟨125, [], i6 (u0.Signals.length : Int)⟩, ⟨126, [], i6 q⟩] a1 → Mem w.heap.size [] w Z [.row i (e51Mc u0 ao1 cap2) 51] Z w1 → KJ719 a1 w1 := by
   rintro _u hG j9 ka ex ey; clear bL J
   refine hKJ720 _ _ ?_; clear hKJ720
   have ez := hF  hG
   refine rgB ex ey [] [] [(126, i6 (w64 (q + 1)))] ?_; intro kb hH; clear ex
   refine rd ?_
   exact ⟨w64 (q + 1), ez.1, ez.2, (hH.reg).anyβ _ (by kernel_rfl), ey.keep (List.Sublist.cons_cons _ (List.Sublist.slnil))⟩
  refine wp_block ?_
  refine sqH ?_; intro hI eA
  obtain ⟨hJ, eB⟩ := hE
  refine ix bL (T := tySignal) (xs := u0.Signals) hs3 q hJ (k := .i64) (e := 23) (bytes := 72) (nog rfl _) rfl (by kernel_rfl) rfl (by kernel_rfl) (by kernel_rfl) (by kernel_rfl) ?_; intro kc kd hK l ke hL hM hN eC; clear bL
  have aP := eB l hL; clear eB
  obtain rfl : hK = ((e23Mc l) : List Value) := hN
  refine z2 eC J 129 hM 0 9 (e23Mc l) rfl ?_; intro kf eD; clear eC
  refine nw eD J pb [str [], i6 0, i6 0, .bool false, .bool false, i6 0, i6 0, i6 0, i6 0] 23 ?_; intro E hO kg bM eE; clear eD J
  refine sx bM eE 0 (e23Mc l) 0 ?_; intro hP eF; clear eE
  have aQ : Mem w.heap.size [] w Z [.row E (e23Mc l) 23, .row i (e51Mc u0 ao1 cap2) 51] Z hP := eF; clear eF
  refine nlH (eA _ _ ?_); clear eA hI
  have eG : Fr 152 [] [⟨1, [], pt i 0⟩, ⟨12, [], pt E 0⟩, ⟨124, [], .slice ao1 u0.Signals.length cap2⟩, ⟨125, [], i6 (u0.Signals.length : Int)⟩, ⟨126, [], i6 q⟩] hO := bM.reg; clear bM
  refine sqQH mixed (by kernel_rfl) aQ ?_; intro bN O
  refine q1 eG 130 (pt E 8) ?_; intro kh bO; clear eG
  refine qst bO (i6 l.Key) (nog rfl _) rfl (by kernel_rfl) (fun v761 hC => ld bO hC 0 (g := []) (b := E) (off := 8) (cs := (e23Mc l)) (ty := 23) rfl (by kernel_rfl) (by kernel_rfl) (by kernel_rfl) (by kernel_rfl) rfl) ?_; intro ki eH; clear bO
  refine q1 eH 132 (.bool (decide (l.Key ≥ 0))) ?_; intro kj eI; clear eH
  refine q1 eI 133 (.bool (decide (l.Key ≥ 0))) ?_; intro kk eJ; clear eI
  have bP := eJ.atom ((decide (l.Key ≥ 0)) == true) (by kernel_rfl); clear eJ
  refine qgd bP (pt i 4) (m := 0) (cj := []) (bj := decide (l.Key ≥ 0)) rfl rfl (by kernel_rfl) rfl (by kernel_rfl) (by kernel_rfl) (by kernel_rfl) (fun hg => qat_ok (fun v771 hC => pu bP (g := [0]) (by kernel_rfl) hg)) ?_; intro kl bQ; clear bP
  refine qgd bQ (i6 u0.Chooser) (m := 0) (cj := []) (bj := decide (l.Key ≥ 0)) rfl rfl (by kernel_rfl) rfl (by kernel_rfl) (by kernel_rfl) (by kernel_rfl) (fun hg => qat_ok (fun v774 hC => ld bQ hC 1 (g := [0]) (b := i) (off := 4) (cs := (e51Mc u0 ao1 cap2)) (ty := 51) rfl (by kernel_rfl) (by kernel_rfl) (by kernel_rfl) (by kernel_rfl) hg)) ?_; intro km bR; clear bQ
  refine qgd bR (.bool (decide (u0.Chooser < 0))) (m := 0) (cj := []) (bj := decide (l.Key ≥ 0)) rfl rfl (by kernel_rfl) rfl (by kernel_rfl) (by kernel_rfl) (by kernel_rfl) (fun hg => qat_ok (fun v777 hC => pu bR (g := [0]) (by kernel_rfl) hg)) ?_; intro kn bS; clear bR
  refine qgd bS (.bool (decide (u0.Chooser < 0))) (m := 0) (cj := []) (bj := decide (l.Key ≥ 0)) rfl rfl (by kernel_rfl) rfl (by kernel_rfl) (by kernel_rfl) (by kernel_rfl) (fun hg => qat_ok (fun v780 hC => pu bS (g := [0]) (by kernel_rfl) hg)) ?_; intro ko eK; clear bS
  have bT := eK.atom ((decide (u0.Chooser < 0)) == false) (by kernel_rfl); clear eK
  refine qgd bT (pt E 8) (m := 1) (cj := [0]) (bj := decide (u0.Chooser < 0)) rfl rfl (by kernel_rfl) rfl (by kernel_rfl) (by kernel_rfl) (by kernel_rfl) (fun hg => qat_ok (fun v784 hC => pu bT (g := [1, 0]) (by kernel_rfl) hg)) ?_; intro kp bU; clear bT
  refine qgd bU (i6 l.Key) (m := 1) (cj := [0]) (bj := decide (u0.Chooser < 0)) rfl rfl (by kernel_rfl) rfl (by kernel_rfl) (by kernel_rfl) (by kernel_rfl) (fun hg => qat_ok (fun v787 hC => ld bU hC 0 (g := [1, 0]) (b := E) (off := 8) (cs := (e23Mc l)) (ty := 23) rfl (by kernel_rfl) (by kernel_rfl) (by kernel_rfl) (by kernel_rfl) hg)) ?_; intro kq bV; clear bU
  refine qgd bV (pt i 5) (m := 1) (cj := [0]) (bj := decide (u0.Chooser < 0)) rfl rfl (by kernel_rfl) rfl (by kernel_rfl) (by kernel_rfl) (by kernel_rfl) (fun hg => qat_ok (fun v790 hC => pu bV (g := [1, 0]) (by kernel_rfl) hg)) ?_; intro kr bW; clear bV
  refine qgd bW (.slice ao1 u0.Signals.length cap2) (m := 1) (cj := [0]) (bj := decide (u0.Chooser < 0)) rfl rfl (by kernel_rfl) rfl (by kernel_rfl) (by kernel_rfl) (by kernel_rfl) (fun hg => qat_ok (fun v793 hC => ld bW hC 1 (g := [1, 0]) (b := i) (off := 5) (cs := (e51Mc u0 ao1 cap2)) (ty := 51) rfl (by kernel_rfl) (by kernel_rfl) (by kernel_rfl) (by kernel_rfl) hg)) ?_; intro ks bX; clear bW
  refine qgd bX (pt i 4) (m := 1) (cj := [0]) (bj := decide (u0.Chooser < 0)) rfl rfl (by kernel_rfl) rfl (by kernel_rfl) (by kernel_rfl) (by kernel_rfl) (fun hg => qat_ok (fun v796 hC => pu bX (g := [1, 0]) (by kernel_rfl) hg)) ?_; intro kt bY; clear bX
  refine qgd bY (i6 u0.Chooser) (m := 1) (cj := [0]) (bj := decide (u0.Chooser < 0)) rfl rfl (by kernel_rfl) rfl (by kernel_rfl) (by kernel_rfl) (by kernel_rfl) (fun hg => qat_ok (fun v799 hC => ld bY hC 1 (g := [1, 0]) (b := i) (off := 4) (cs := (e51Mc u0 ao1 cap2)) (ty := 51) rfl (by kernel_rfl) (by kernel_rfl) (by kernel_rfl) (by kernel_rfl) hg)) ?_; intro ku aR; clear bY
  rcases Bool.eq_false_or_eq_true (decide (l.Key ≥ 0)) with p | p
  ·
   have aS := aP.1 p; clear aP
   have eL := aR.reval (d := 133) (c := []) (v := .bool (decide (l.Key ≥ 0))) (by kernel_rfl) (.bool true) (by rw [p]); clear aR
   have eM := eL.setc (d := 134) (c := [0]) (v := pt i 4) (by kernel_rfl) (v' := pt i 4) (by rw [p]; kernel_rfl); clear eL
   have eN := eM.setc (d := 135) (c := [0]) (v := i6 u0.Chooser) (by kernel_rfl) (v' := i6 u0.Chooser) (by rw [p]; kernel_rfl); clear eM
   have eO := eN.setc (d := 136) (c := [0]) (v := .bool (decide (u0.Chooser < 0))) (by kernel_rfl) (v' := .bool (decide (u0.Chooser < 0))) (by rw [p]; kernel_rfl); clear eN
   have aT := eO.setc (d := 137) (c := [0]) (v := .bool (decide (u0.Chooser < 0))) (by kernel_rfl) (v' := .bool (decide (u0.Chooser < 0))) (by rw [p]; kernel_rfl); clear eO
   rcases Bool.eq_false_or_eq_true (decide (u0.Chooser < 0)) with x | x
   ·
    have hQ := aS.1 x; clear aS
    have eP := aT.reval (d := 137) (c := []) (v := .bool (decide (u0.Chooser < 0))) (by kernel_rfl) (.bool true) (by rw [x]); clear aT
    have eQ := eP.setc (d := 138) (c := [1, 0]) (v := pt E 8) (by kernel_rfl) (v' := undef) (by rw [x, p]; kernel_rfl); clear eP
    have eR := eQ.setc (d := 139) (c := [1, 0]) (v := i6 l.Key) (by kernel_rfl) (v' := undef) (by rw [x, p]; kernel_rfl); clear eQ
    have eS := eR.setc (d := 140) (c := [1, 0]) (v := pt i 5) (by kernel_rfl) (v' := undef) (by rw [x, p]; kernel_rfl); clear eR
    have eT := eS.setc (d := 141) (c := [1, 0]) (v := .slice ao1 u0.Signals.length cap2) (by kernel_rfl) (v' := undef) (by rw [x, p]; kernel_rfl); clear eS
    have eU := eT.setc (d := 142) (c := [1, 0]) (v := pt i 4) (by kernel_rfl) (v' := undef) (by rw [x, p]; kernel_rfl); clear eT
    have eV := eU.setc (d := 143) (c := [1, 0]) (v := i6 u0.Chooser) (by kernel_rfl) (v' := undef) (by rw [x, p]; kernel_rfl); clear eU
    refine qsk eV (b := true) rfl rfl (by kernel_rfl) (by kernel_rfl) rfl rfl (by kernel_rfl) ?_; intro kv eW; clear eV
    refine qsk eW (b := true) rfl rfl (by kernel_rfl) (by kernel_rfl) rfl rfl (by kernel_rfl) ?_; intro kw eX; clear eW
    refine qsk eX (b := true) rfl rfl (by kernel_rfl) (by kernel_rfl) rfl rfl (by kernel_rfl) ?_; intro kx eY; clear eX
    refine qsk eY (b := true) rfl rfl (by kernel_rfl) (by kernel_rfl) rfl rfl (by kernel_rfl) ?_; intro ky eZ; clear eY
    refine qsk eZ (b := true) rfl rfl (by kernel_rfl) (by kernel_rfl) rfl rfl (by kernel_rfl) ?_; intro kz aU; clear eZ
    refine qst aU (.bool true) (by rw [wanted_of aU (b := true) rfl rfl (by kernel_rfl) (by kernel_rfl)]; rfl) rfl (by kernel_rfl) (fun v828 hC => p0 aU (by kernel_rfl)) ?_; intro kA e0; clear aU
    refine q1 e0 150 (.bool true) ?_; intro hR bZ; clear e0
    refine qnl (O _ ?_); clear O bN; intro kB e1; clear aQ
    refine cdT bZ (by kernel_rfl) ?_
    have e2 : Fr 152 [] [] hR := bZ.reg; clear bZ
    refine sqB e2 e1 [] [] [(2, i6 4)] ?_; intro kC hS; clear e2
    refine wp_ret ?_
    refine ibr ?_
    refine thr ?_
    refine thr ?_
    refine ibr ?_
    refine thr ?_
    refine ra1 hS (i6 4) ?_
    exact ⟨4, rfl, hQ, e1.below⟩
   have hT := aS.2 x; clear aS
   have e3 := aT.reval (d := 137) (c := []) (v := .bool (decide (u0.Chooser < 0))) (by kernel_rfl) (.bool false) (by rw [x]); clear aT
   have e4 := e3.setc (d := 138) (c := [1, 0]) (v := pt E 8) (by kernel_rfl) (v' := pt E 8) (by rw [x, p]; kernel_rfl); clear e3
   have e5 := e4.setc (d := 139) (c := [1, 0]) (v := i6 l.Key) (by kernel_rfl) (v' := i6 l.Key) (by rw [x, p]; kernel_rfl); clear e4
   have e6 := e5.setc (d := 140) (c := [1, 0]) (v := pt i 5) (by kernel_rfl) (v' := pt i 5) (by rw [x, p]; kernel_rfl); clear e5
   have e7 := e6.setc (d := 141) (c := [1, 0]) (v := .slice ao1 u0.Signals.length cap2) (by kernel_rfl) (v' := .slice ao1 u0.Signals.length cap2) (by rw [x, p]; kernel_rfl); clear e6
   have e8 := e7.setc (d := 142) (c := [1, 0]) (v := pt i 4) (by kernel_rfl) (v' := pt i 4) (by rw [x, p]; kernel_rfl); clear e7
   have b0 := e8.setc (d := 143) (c := [1, 0]) (v := i6 u0.Chooser) (by kernel_rfl) (v' := i6 u0.Chooser) (by rw [x, p]; kernel_rfl); clear e8
   obtain ⟨hU, e9⟩ := hT
   refine qix b0 (T := tySignal) (xs := u0.Signals) hs3 u0.Chooser hU (k := .i64) (e := 23) (bytes := 72) (by rw [wanted_of b0 (b := false) rfl rfl (by kernel_rfl) (by kernel_rfl)]; rfl) rfl (by kernel_rfl) rfl (by kernel_rfl) (by kernel_rfl) (by kernel_rfl) ?_; intro hV hW hX A kD hY h0 h1 aV; clear b0
   have h2 := e9 A hY; clear e9
   obtain rfl : hX = ((e23Mc A) : List Value) := h1
   refine qst aV (.pointer (some ⟨hV, hW + 2, none⟩)) (by rw [wanted_of aV (b := false) rfl rfl (by kernel_rfl) (by kernel_rfl)]; rfl) rfl (by kernel_rfl) (fun v861 hC => p0 aV (by kernel_rfl)) ?_; intro kE aW; clear aV
   refine qst aW (i6 A.Size) (by rw [wanted_of aW (b := false) rfl rfl (by kernel_rfl) (by kernel_rfl)]; rfl) rfl (by kernel_rfl) (fun v864 hC => lz aW hC.fz h0 2 (g := []) rfl (by kernel_rfl) (by kernel_rfl) (by kernel_rfl) rfl) ?_; intro kF aX; clear aW
   obtain ⟨h3, aY⟩ := h2
   refine qst aX (i6 (bShr .i64 l.Key A.Size)) (by rw [wanted_of aX (b := false) rfl rfl (by kernel_rfl) (by kernel_rfl)]; rfl) rfl (by kernel_rfl) (fun v867 hC => shr_run aX (g := []) (k' := .i64) rfl (by kernel_rfl) (by kernel_rfl) h3 rfl) ?_; intro kG aZ; clear aX
   refine qst aZ (.bool ((bShr .i64 l.Key A.Size) != 0)) (by rw [wanted_of aZ (b := false) rfl rfl (by kernel_rfl) (by kernel_rfl)]; rfl) rfl (by kernel_rfl) (fun v872 hC => p0 aZ (by kernel_rfl)) ?_; intro kH a2; clear aZ
   refine qst a2 (.bool ((bShr .i64 l.Key A.Size) != 0)) (by rw [wanted_of a2 (b := true) rfl rfl (by kernel_rfl) (by kernel_rfl)]; rfl) rfl (by kernel_rfl) (fun v875 hC => p0 a2 (by kernel_rfl)) ?_; intro kI fa; clear a2
   refine q1 fa 150 (.bool ((bShr .i64 l.Key A.Size) != 0)) ?_; intro h4 a3; clear fa
   refine qnl (O _ ?_); clear O bN; intro kJ b1; clear aQ
   refine cd a3 (t := (bShr .i64 l.Key A.Size) != 0) (by kernel_rfl) (fun b2 => ?_) (fun b2 => ?_)
   ·
    have h5 := aY.1 b2; clear aY
    have fb : Fr 152 [] [] h4 := a3.reg; clear a3
    refine sqB fb b1 [] [] [(2, i6 4)] ?_; intro kK h6; clear fb
    refine wp_ret ?_
    refine ibr ?_
    refine thr ?_
    refine thr ?_
    refine ibr ?_
    refine thr ?_
    refine ra1 h6 (i6 4) ?_
    exact ⟨4, rfl, h5, b1.below⟩
   have h7 := aY.2 b2; clear aY
   refine wp_skip ?_
   refine ibn ?_
   refine rd ?_
   exact ew () h7 _ _ ((a3.reg).anyβ _ (by kernel_rfl)) (b1.keep (List.Sublist.cons _ (List.Sublist.cons_cons _ (List.Sublist.slnil))))
  have h8 := aP.2 p; clear aP
  have fd := aR.reval (d := 133) (c := []) (v := .bool (decide (l.Key ≥ 0))) (by kernel_rfl) (.bool false) (by rw [p]); clear aR
  have fe := fd.setc (d := 134) (c := [0]) (v := pt i 4) (by kernel_rfl) (v' := undef) (by rw [p]; kernel_rfl); clear fd
  have ff := fe.setc (d := 135) (c := [0]) (v := i6 u0.Chooser) (by kernel_rfl) (v' := undef) (by rw [p]; kernel_rfl); clear fe
  have fg := ff.setc (d := 136) (c := [0]) (v := .bool (decide (u0.Chooser < 0))) (by kernel_rfl) (v' := undef) (by rw [p]; kernel_rfl); clear ff
  have fh := fg.setc (d := 137) (c := [0]) (v := .bool (decide (u0.Chooser < 0))) (by kernel_rfl) (v' := undef) (by rw [p]; kernel_rfl); clear fg
  have fi := fh.setu (d := 138) (c := [1, 0]) (v := pt E 8) (by kernel_rfl) 0 (by kernel_rfl) (by rw [p]; kernel_rfl); clear fh
  have fj := fi.setu (d := 139) (c := [1, 0]) (v := i6 l.Key) (by kernel_rfl) 0 (by kernel_rfl) (by rw [p]; kernel_rfl); clear fi
  have fk := fj.setu (d := 140) (c := [1, 0]) (v := pt i 5) (by kernel_rfl) 0 (by kernel_rfl) (by rw [p]; kernel_rfl); clear fj
  have fl := fk.setu (d := 141) (c := [1, 0]) (v := .slice ao1 u0.Signals.length cap2) (by kernel_rfl) 0 (by kernel_rfl) (by rw [p]; kernel_rfl); clear fk
  have fm := fl.setu (d := 142) (c := [1, 0]) (v := pt i 4) (by kernel_rfl) 0 (by kernel_rfl) (by rw [p]; kernel_rfl); clear fl
  have fn := fm.setu (d := 143) (c := [1, 0]) (v := i6 u0.Chooser) (by kernel_rfl) 0 (by kernel_rfl) (by rw [p]; kernel_rfl); clear fm
  refine qsku fn rfl rfl (by kernel_rfl) (by kernel_rfl) rfl (by kernel_rfl) ?_; intro kL fo; clear fn
  refine qsku fo rfl rfl (by kernel_rfl) (by kernel_rfl) rfl (by kernel_rfl) ?_; intro kM fp; clear fo
  refine qsku fp rfl rfl (by kernel_rfl) (by kernel_rfl) rfl (by kernel_rfl) ?_; intro kN fq; clear fp
  refine qsku fq rfl rfl (by kernel_rfl) (by kernel_rfl) rfl (by kernel_rfl) ?_; intro kO fr; clear fq
  refine qsku fr rfl rfl (by kernel_rfl) (by kernel_rfl) rfl (by kernel_rfl) ?_; intro kP fs; clear fr
  refine qsk fs (b := false) rfl rfl (by kernel_rfl) (by kernel_rfl) rfl rfl (by kernel_rfl) ?_; intro kQ ft; clear fs
  refine q1 ft 150 (.bool false) ?_; intro kR fu; clear ft
  refine qnl (O _ ?_); clear O bN; intro kS h9; clear aQ
  refine cdF fu (by kernel_rfl) ?_
  refine wp_skip ?_
  refine ibn ?_
  refine rd ?_
  exact ew () h8 _ _ ((fu.reg).anyβ _ (by kernel_rfl)) (h9.keep (List.Sublist.cons _ (List.Sublist.cons_cons _ (List.Sublist.slnil))))
 have ia := aO.2 bK; clear aO
 refine wp_exit ?_
 refine thx ?_
 refine thx ?_
 refine ibx ?_
 refine thn ?_
 refine sqB ah J [] [] [(2, i6 0)] ?_; intro kT ib; clear ah
 refine wp_ret ?_
 refine ra1 ib (i6 0) ?_
 exact ⟨0, rfl, ia, J.below⟩

end Go.Proofs.Ytdndfbamhnchfaa
set_option linter.unusedVariables false
set_option linter.unusedSimpArgs false
set_option maxRecDepth 100000
set_option maxHeartbeats 0
namespace Go.Proofs.Ytdndfbamhnchfaa
open Go.Sy Go.RowKit
abbrev e23Md (X : Signal) : List Value := [str X.Name, i6 X.Start, i6 X.Size, .bool X.Back, .bool X.Signed, i6 X.Mul, i6 X.Div, i6 X.Add, i6 X.Key]
abbrev e53Md (X : Frame) (A0 : Option Addr) (C0 : Nat) : List Value := [i6 X.ID, .bool X.Long, .bool X.Fast, .bool X.Remote, i6 X.Size, .slice A0 X.Data.length C0]
abbrev e51Md (X : Message) (A0 : Option Addr) (C0 : Nat) : List Value := [i6 X.ID, .bool X.Long, str X.Name, i6 X.Size, i6 X.Chooser, .slice A0 X.Signals.length C0]
abbrev e30Md (X : Reading) : List Value := [str X.Name, i6 X.Num, i6 X.Den]
theorem mcheck_fun (u0 : Message) (ao1 : Option Addr) (cap2 : Nat) (Z : Fz) (w : World) (hs3 : SlR tySignal Z ao1 cap2 u0.Signals) (hZ : Z.on w) : Calls Try.prog 39 #[.agg #[i6 u0.ID, .bool u0.Long, str u0.Name, i6 u0.Size, i6 u0.Chooser, .slice ao1 u0.Signals.length cap2]] w fun e w' => e = .returned (i6 (mcheckS u0)) ∧ Below w.heap.size w w' :=
  (mcheck_walk u0 ao1 cap2 Z w hs3 hZ (mcheck_ok u0)).mono fun _ _ ⟨r, he, hk, hb⟩ => ⟨by subst hk; exact he, hb⟩

theorem mthere_fun (u0 : Message) (u1 : Signal) (u2 : List Int) (hpre : therepre u0 u1 u2) (ao1 : Option Addr) (cap2 : Nat) (ao4 : Option Addr) (cap5 : Nat) (Z : Fz) (w : World) (hs3 : SlR tySignal Z ao1 cap2 u0.Signals) (hs6 : SlR t8 Z ao4 cap5 u2) (hZ : Z.on w) : Calls Try.prog 41 #[.agg #[i6 u0.ID, .bool u0.Long, str u0.Name, i6 u0.Size, i6 u0.Chooser, .slice ao1 u0.Signals.length cap2], .agg #[str u1.Name, i6 u1.Start, i6 u1.Size, .bool u1.Back, .bool u1.Signed, i6 u1.Mul, i6 u1.Div, i6 u1.Add, i6 u1.Key], .slice ao4 u2.length cap5] w fun e w' => e = .returned (.bool (mthereS u0 u1 u2)) ∧ Below w.heap.size w w' :=
  (mthere_walk u0 u1 u2 ao1 cap2 ao4 cap5 Z w hs3 hs6 hZ (mthere_ok u0 u1 u2 hpre)).mono fun _ _ ⟨r, he, hk, hb⟩ => ⟨by subst hk; exact he, hb⟩

theorem mread_walk (u0 : Message) (u1 : Frame) (ao1 : Option Addr) (cap2 : Nat) (ao4 : Option Addr) (cap5 : Nat) (Z : Fz) (w : World) (hs3 : SlR tySignal Z ao1 cap2 u0.Signals) (hs6 : SlR t8 Z ao4 cap5 u1.Data) (hZ : Z.on w) {K : ((List Reading) × Int) → Prop} (hp : mread_vc u0 u1 K) : Calls Try.prog 16 #[.agg #[i6 u0.ID, .bool u0.Long, str u0.Name, i6 u0.Size, i6 u0.Chooser, .slice ao1 u0.Signals.length cap2], .agg #[i6 u1.ID, .bool u1.Long, .bool u1.Fast, .bool u1.Remote, i6 u1.Size, .slice ao4 u1.Data.length cap5]] w fun e w' => ∃ (r : (List Reading) × Int) (ao1001 : Option Addr) (cap1002 : Nat) (Z' : Fz), e = .returned (.tuple #[.slice ao1001 r.1.length cap1002, i6 r.2]) ∧ K r ∧ Mem w.heap.size [] w Z [.own tyReading 30 ao1001 cap1002 r.1] Z' w' := by
 refine enter0 Try.func16 rfl rfl (by kernel_rfl) ?_; intro a0 ab; have ac := Mem.start w Z hZ; have bV := Fz.le.refl Z
 have ad := hp (hs3.small); clear hp
 have z := ad (hs6.small); clear ad
 refine sqH ?_; intro a3 ae
 refine nw ab ac pb (e51Md u0 ao1 cap2) 51 ?_; intro f bW bX af ag; clear ab ac
 refine nw af ag pb (e53Md u1 ao4 cap5) 53 ?_; intro d bY bZ ah n; clear af ag
 refine bt ah n 2 [] [] [] ?_; intro b0 ai; clear ah
 refine nlH (ae _ _ ?_); clear ae a3
 refine wp_seq ?_
 refine sqH ?_; intro a4 aj
 refine l2 ai n 11 1 0 6 (e51Md u0 ao1 cap2) rfl rfl ?_; intro b1 ak; clear ai
 refine fc ak n (mcheck_fun u0 ao1 cap2 _ _ hs3 n.fz) ?_; intro b2 a5 al l; clear ak n
 refine s1 al 6 (i6 (mcheckS u0)) ?_; intro b3 am; clear al
 refine nlH (aj _ _ ?_); clear aj a4
 refine sqB am l [] [] [(14, .bool ((mcheckS u0) != 0))] ?_; intro b4 o; clear am
 refine cd o (t := (mcheckS u0) != 0) (by kernel_rfl) (fun N => ?_) (fun N => ?_)
 ·
  have a6 := z.1 N; clear z
  refine sqB o l [] [] [(4, .slice none 0 0), (5, i6 (mcheckS u0))] ?_; intro b5 a7; clear o
  refine wp_ret ?_
  refine thr ?_
  have a8 : Mem w.heap.size [] w Z [.own tyReading 30 none 0 ([] : List Reading), .row d (e53Md u1 ao4 cap5) 53, .row f (e51Md u0 ao1 cap2) 51] Z a5 := l.addNil tyReading 30 (by decide); clear l
  refine ra2 a7 (.tuple #[.slice none ([] : List Reading).length 0, i6 (mcheckS u0)]) ?_
  exact ⟨(([] : List Reading), (mcheckS u0)), none, 0, Z, rfl, a6, a8.keep (List.Sublist.cons_cons _ (List.Sublist.cons _ (List.Sublist.cons _ (List.Sublist.slnil))))⟩
 have A := z.2 N; clear z
 refine wp_skip ?_
 refine thn ?_
 refine wp_seq ?_
 refine sqH ?_; intro a9 an
 refine l2 o l 16 0 0 6 (e53Md u1 ao4 cap5) rfl rfl ?_; intro b6 aq; clear o
 refine fc aq l (fcheckfr_fun u1 ao4 cap5 _ _ hs6 l.fz) ?_; intro b7 B ar c; clear aq l
 refine s1 ar 7 (i6 (fcheckfr u1)) ?_; intro b8 au; clear ar
 refine nlH (an _ _ ?_); clear an a9
 refine sqB au c [] [] [(19, .bool ((fcheckfr u1) != 0))] ?_; intro b9 p; clear au
 refine cd p (t := (fcheckfr u1) != 0) (by kernel_rfl) (fun O => ?_) (fun O => ?_)
 ·
  have ba := A.1 O; clear A
  refine sqB p c [] [] [(4, .slice none 0 0), (5, i6 (fcheckfr u1))] ?_; intro ca bb; clear p
  refine wp_ret ?_
  refine thr ?_
  have bc : Mem w.heap.size [] w Z [.own tyReading 30 none 0 ([] : List Reading), .row d (e53Md u1 ao4 cap5) 53, .row f (e51Md u0 ao1 cap2) 51] Z B := c.addNil tyReading 30 (by decide); clear c
  refine ra2 bb (.tuple #[.slice none ([] : List Reading).length 0, i6 (fcheckfr u1)]) ?_
  exact ⟨(([] : List Reading), (fcheckfr u1)), none, 0, Z, rfl, ba, bc.keep (List.Sublist.cons_cons _ (List.Sublist.cons _ (List.Sublist.cons _ (List.Sublist.slnil))))⟩
 have C := A.2 O; clear A
 refine wp_skip ?_
 refine thn ?_
 refine wp_seq ?_
 refine sqB p c [0, 1, 0, 1, 0] [] [(36, .bool (((u1.ID != u0.ID) || (u1.Long != u0.Long)) || u1.Remote))] ?_; intro cb q; clear p
 refine cd q (t := ((u1.ID != u0.ID) || (u1.Long != u0.Long)) || u1.Remote) (by kernel_rfl) (fun P => ?_) (fun P => ?_)
 ·
  have bd := C.1 P; clear C
  refine sqB q c [] [] [(4, .slice none 0 0), (5, i6 8)] ?_; intro cc be; clear q
  refine wp_ret ?_
  refine thr ?_
  have bf : Mem w.heap.size [] w Z [.own tyReading 30 none 0 ([] : List Reading), .row d (e53Md u1 ao4 cap5) 53, .row f (e51Md u0 ao1 cap2) 51] Z B := c.addNil tyReading 30 (by decide); clear c
  refine ra2 be (.tuple #[.slice none ([] : List Reading).length 0, i6 8]) ?_
  exact ⟨(([] : List Reading), 8), none, 0, Z, rfl, bd, bf.keep (List.Sublist.cons_cons _ (List.Sublist.cons _ (List.Sublist.cons _ (List.Sublist.slnil))))⟩
 have D := C.2 P; clear C
 refine wp_skip ?_
 refine thn ?_
 refine wp_seq ?_
 refine sqB q c [0, 1] [] [(42, .bool (decide ((u1.Data.length : Int) < u0.Size)))] ?_; intro ce u; clear q
 refine cd u (t := decide ((u1.Data.length : Int) < u0.Size)) (by kernel_rfl) (fun Q => ?_) (fun Q => ?_)
 ·
  have bg := D.1 Q; clear D
  refine sqB u c [] [] [(4, .slice none 0 0), (5, i6 7)] ?_; intro cf bh; clear u
  refine wp_ret ?_
  refine thr ?_
  have bi : Mem w.heap.size [] w Z [.own tyReading 30 none 0 ([] : List Reading), .row d (e53Md u1 ao4 cap5) 53, .row f (e51Md u0 ao1 cap2) 51] Z B := c.addNil tyReading 30 (by decide); clear c
  refine ra2 bh (.tuple #[.slice none ([] : List Reading).length 0, i6 7]) ?_
  exact ⟨(([] : List Reading), 7), none, 0, Z, rfl, bg, bi.keep (List.Sublist.cons_cons _ (List.Sublist.cons _ (List.Sublist.cons _ (List.Sublist.slnil))))⟩
 have bj := D.2 Q; clear D
 refine wp_skip ?_
 refine thn ?_
 refine sqB u c [] [] [(8, .slice none 0 0)] ?_; intro cg av; clear u
 refine wp_seq ?_
 refine sqB av c [1] [] [(44, .slice ao1 u0.Signals.length cap2), (45, i6 (u0.Signals.length : Int)), (46, i6 0)] ?_; intro aw ax; clear av
 refine wp_block ?_
 have ay : Fr 66 [] [⟨2, [], pt f 0⟩, ⟨3, [], pt d 0⟩, ⟨8, [], .slice none 0 0⟩, ⟨44, [], .slice ao1 u0.Signals.length cap2⟩, ⟨45, [], i6 (u0.Signals.length : Int)⟩, ⟨46, [], i6 0⟩] aw := ax.reg; clear ax
 have az : Mem w.heap.size [] w Z [.own tyReading 30 none 0 ([] : List Reading), .row d (e53Md u1 ao4 cap5) 53, .row f (e51Md u0 ao1 cap2) 51] Z B := c.addNil tyReading 30 (by decide); clear c
 have aA : Fr 66 [] [⟨2, [], pt f 0⟩, ⟨3, [], pt d 0⟩, ⟨8, [], .slice none ([] : List Reading).length 0⟩, ⟨44, [], .slice ao1 u0.Signals.length cap2⟩, ⟨45, [], i6 (u0.Signals.length : Int)⟩, ⟨46, [], i6 0⟩] aw := ay.reg; clear ay
 obtain ⟨bk, bl, bm, bn⟩ := bj
 refine lp (ι := (List Reading) × Int × (Option Addr) × Nat) (fun s => [⟨2, [], pt f 0⟩, ⟨3, [], pt d 0⟩, ⟨8, [], .slice s.2.2.1 s.1.length s.2.2.2⟩, ⟨44, [], .slice ao1 u0.Signals.length cap2⟩, ⟨45, [], i6 (u0.Signals.length : Int)⟩, ⟨46, [], i6 s.2.1⟩]) (fun s => [.own tyReading 30 s.2.2.1 s.2.2.2 s.1, .row d (e53Md u1 ao4 cap5) 53, .row f (e51Md u0 ao1 cap2) 51]) (fun s => Z) (fun s => bk s.1 s.2.1) (fun s => bl s.1 s.2.1) ⟨([] : List Reading), 0, none, 0⟩ bm (by exact aA.reg) (by exact az) ?_
 rintro ⟨g, h, i, j⟩ bo bp bq aB aC
 have aD : Fr 66 [] [⟨2, [], pt f 0⟩, ⟨3, [], pt d 0⟩, ⟨8, [], .slice i g.length j⟩, ⟨44, [], .slice ao1 u0.Signals.length cap2⟩, ⟨45, [], i6 (u0.Signals.length : Int)⟩, ⟨46, [], i6 h⟩] bp := aB; clear aB aA
 have m : Mem w.heap.size [] w Z [.own tyReading 30 i j g, .row d (e53Md u1 ao4 cap5) 53, .row f (e51Md u0 ao1 cap2) 51] Z bq := aC; clear aC az
 have E := bn g h bo
 refine sqB aD m [] [] [(47, .bool (decide (h < (u0.Signals.length : Int))))] ?_; intro ch v; clear aD
 refine wp_seq ?_
 refine cd v (t := decide (h < (u0.Signals.length : Int))) (by kernel_rfl) (fun R => ?_) (fun R => ?_)
 ·
  have br := E.1 R; clear E
  refine wp_skip ?_
  refine thn ?_
  refine wp_seq ?_
  refine wp_block ?_
  refine sqH ?_; intro bs aE
  obtain ⟨bu, aF⟩ := br
  refine ix v (T := tySignal) (xs := u0.Signals) hs3 h bu (k := .i64) (e := 23) (bytes := 72) (nog rfl _) rfl (by kernel_rfl) rfl (by kernel_rfl) (by kernel_rfl) (by kernel_rfl) ?_; intro ci cj bv a ck bw bx bz aG; clear v
  have bA := aF a bw; clear aF
  obtain rfl : bv = ((e23Md a) : List Value) := bz
  refine z2 aG m 49 bx 0 9 (e23Md a) rfl ?_; intro cl aH; clear aG
  refine nw aH m pb [str [], i6 0, i6 0, .bool false, .bool false, i6 0, i6 0, i6 0, i6 0] 23 ?_; intro F cm cn S aI; clear aH m
  refine sx S aI 0 (e23Md a) 0 ?_; intro bB aJ; clear aI
  have G : Mem w.heap.size [] w Z [.row F (e23Md a) 23, .own tyReading 30 i j g, .row d (e53Md u1 ao4 cap5) 53, .row f (e51Md u0 ao1 cap2) 51] Z bB := aJ; clear aJ
  refine nlH (aE _ _ ?_); clear aE bs
  refine sqH ?_; intro bC aK
  refine bt S G 4 [3, 0, 2] [] [(50, .agg (e51Md u0 ao1 cap2).toArray), (51, .agg (e23Md a).toArray), (53, .slice ao4 u1.Data.length cap5)] ?_; intro co aL; clear S
  obtain ⟨bD, H⟩ := bA
  refine fc aL G (mthere_fun u0 a u1.Data bD ao1 cap2 ao4 cap5 _ _ hs3 hs6 G.fz) ?_; intro bE cp y I; clear aL G
  refine nlH (aK _ _ ?_); clear aK bC
  refine cd y (t := (mthereS u0 a u1.Data)) (by kernel_rfl) (fun U => ?_) (fun U => ?_)
  ·
   have bF := H.1 U; clear H
   have aM : Fr 66 [] [⟨2, [], pt f 0⟩, ⟨3, [], pt d 0⟩, ⟨8, [], .slice i g.length j⟩, ⟨10, [], pt F 0⟩, ⟨44, [], .slice ao1 u0.Signals.length cap2⟩, ⟨45, [], i6 (u0.Signals.length : Int)⟩, ⟨46, [], i6 h⟩] bE := y.reg; clear y
   refine rgS mixed I [(0, true), (1, true), (2, true), (3, true), (4, true), (5, false), (6, false), (7, false), (8, false), (9, true)] [] [0, 2] [.row F (e23Md a) 23, .row d (e53Md u1 ao4 cap5) 53] ?_
   intro bG aN cq V; clear I
   have J := Fz.le.refl Z
   refine cS aM 5 [0, 0, 1] [] [(55, .slice i g.length j), (56, .agg (e23Md a).toArray), (57, .agg (e23Md a).toArray), (59, .slice ao4 u1.Data.length cap5)] ?_; intro cr aO; clear aM
   refine eS rfl ?_; intro bH aP
   obtain ⟨bI, bJ⟩ := bF
   refine fc aO V (sget_fun a u1.Data bI ao4 cap5 _ _ hs6 V.fz) ?_; intro cs ct aQ L; clear aO V
   refine nl (qnI (aP _ _ (L.cst J [0, 2]) ?_)); clear aP bH
   refine eS rfl ?_; intro bK aR
   obtain ⟨bL, bM⟩ := bJ
   refine fc aQ L (smean_fun a (getS a u1.Data) bL _ _ L.fz) ?_; intro cu cv aS W; clear aQ L
   refine nl (qnI (aR _ _ (W.cst J [0, 2]) ?_)); clear aR bK
   refine eS rfl ?_; intro bN aT
   refine nw aS W (fun b => .slice (sm b) 1 1) (e30Md (meanS a (getS a u1.Data))) 30 ?_; intro aU cw cx aV M; clear aS W
   refine nl (qnI (aT _ _ (M.cst J [1, 3]) ?_)); clear aT bN
   refine eS rfl ?_; intro bO aW
   obtain ⟨bP, aX⟩ := bM
   refine ap aV M 2 (T := tyReading) (xs := g) (ys := [(meanS a (getS a u1.Data))]) (ao := i) (cap := j) (ao2 := (sm aU)) (cap2 := 1) (t := 54) (e := 30) (bytes := 32) (nog rfl _) rfl (by kernel_rfl) rfl (by kernel_rfl) (by kernel_rfl) (by kernel_rfl) rfl (Src.row M 0 rfl (RepAll.one (T := tyReading) (x := (meanS a (getS a u1.Data))) rfl)) bP ?_; intro X Y cy bQ cz aY aZ; clear aV M
   have aa : Mem w.heap.size [] w Z [.row aU (e30Md (meanS a (getS a u1.Data))) 30, .row F (e23Md a) 23, .own tyReading 30 X Y (g ++ [(meanS a (getS a u1.Data))]), .row d (e53Md u1 ao4 cap5) 53, .row f (e51Md u0 ao1 cap2) 51] Z bQ := aZ; clear aZ
   refine nl (qnI (aW _ _ (aa.cst J [1, 3]) ?_)); clear aW bO
   refine cS aY 1 [] [] [(8, .slice X (g ++ [(meanS a (getS a u1.Data))]).length Y)] ?_; intro cA a1; clear aY
   refine nS (aN _ _ ?_); clear aN bG
   refine ibn ?_
   refine thn ?_
   refine rgB a1 aa [] [] [(46, i6 (w64 (h + 1)))] ?_; intro cB bR; clear a1
   refine rd ?_
   exact ⟨⟨g ++ [(meanS a (getS a u1.Data))], w64 (h + 1), X, Y⟩, aX.1, aX.2, (bR.reg).anyβ _ (by kernel_rfl), aa.keep (List.Sublist.cons _ (List.Sublist.cons _ (List.Sublist.cons_cons _ (List.Sublist.cons_cons _ (List.Sublist.cons_cons _ (List.Sublist.slnil))))))⟩
  have a2 := H.2 U; clear H
  refine wp_skip ?_
  refine ibn ?_
  refine thn ?_
  refine rgB y I [] [] [(46, i6 (w64 (h + 1)))] ?_; intro cC bS; clear y
  refine rd ?_
  exact ⟨⟨g, w64 (h + 1), i, j⟩, a2.1, a2.2, (bS.reg).anyβ _ (by kernel_rfl), I.keep (List.Sublist.cons _ (List.Sublist.cons_cons _ (List.Sublist.cons_cons _ (List.Sublist.cons_cons _ (List.Sublist.slnil)))))⟩
 have bT := E.2 R; clear E
 refine wp_exit ?_
 refine thx ?_
 refine thx ?_
 refine ibx ?_
 refine thn ?_
 refine sqB v m [] [] [(4, .slice i g.length j), (5, i6 0)] ?_; intro cD bU; clear v
 refine wp_ret ?_
 refine ra2 bU (.tuple #[.slice i g.length j, i6 0]) ?_
 exact ⟨(g, 0), i, j, Z, rfl, bT, m.keep (List.Sublist.cons_cons _ (List.Sublist.cons _ (List.Sublist.cons _ (List.Sublist.slnil))))⟩

theorem mwrite_walk (u0 : Message) (u1 : List Reading) (ao1 : Option Addr) (cap2 : Nat) (ao4 : Option Addr) (cap5 : Nat) (Z : Fz) (w : World) (hs3 : SlR tySignal Z ao1 cap2 u0.Signals) (hs6 : SlR tyReading Z ao4 cap5 u1) (hZ : Z.on w) {K : (Frame × Int) → Prop} (hp : mwrite_vc u0 u1 K) : Calls Try.prog 18 #[.agg #[i6 u0.ID, .bool u0.Long, str u0.Name, i6 u0.Size, i6 u0.Chooser, .slice ao1 u0.Signals.length cap2], .slice ao4 u1.length cap5] w fun e w' => ∃ (r : Frame × Int) (ao1001 : Option Addr) (cap1002 : Nat) (Z' : Fz), e = .returned (.tuple #[.agg #[i6 r.1.ID, .bool r.1.Long, .bool r.1.Fast, .bool r.1.Remote, i6 r.1.Size, .slice ao1001 r.1.Data.length cap1002], i6 r.2]) ∧ K r ∧ SlR t8 Z' ao1001 cap1002 r.1.Data ∧ Mem w.heap.size [] w Z [] Z' w' := by
 refine enter0 Try.func18 rfl rfl (by kernel_rfl) ?_; intro a0 c4; have c5 := Mem.start w Z hZ; have D := Fz.le.refl Z
 have c6 := hp (hs3.small); clear hp
 have bA := c6 (hs6.small); clear c6
 refine sqH ?_; intro gu c7
 refine nw c4 c5 pb (e51Md u0 ao1 cap2) 51 ?_; intro p jI jJ c8 c9; clear c4 c5
 refine nw c8 c9 pb [i6 0, .bool false, .bool false, .bool false, i6 0, .slice none 0 0] 53 ?_; intro q jK jL da bB; clear c8 c9
 refine s1 da 5 (i6 0) ?_; intro jM db; clear da
 refine nlH (c7 _ _ ?_); clear c7 gu
 refine wp_seq ?_
 refine sqH ?_; intro gv dc
 refine l2 db bB 18 1 0 6 (e51Md u0 ao1 cap2) rfl rfl ?_; intro jN dd; clear db
 refine fc dd bB (mcheck_fun u0 ao1 cap2 _ _ hs3 bB.fz) ?_; intro jO jP de a9; clear dd bB
 refine s1 de 6 (i6 (mcheckS u0)) ?_; intro jQ df; clear de
 refine nlH (dc _ _ ?_); clear dc gv
 refine sqB df a9 [] [] [(21, .bool ((mcheckS u0) != 0))] ?_; intro al ba; clear df
 refine cd ba (t := (mcheckS u0) != 0) (by kernel_rfl) (fun cl => ?_) (fun cl => ?_)
 ·
  have gw := bA.1 cl; clear bA
  refine sqH ?_; intro gx dg
  refine bt ba a9 2 [] [] [(22, .agg #[i6 0, .bool false, .bool false, .bool false, i6 0, .slice none 0 0]), (23, i6 (mcheckS u0))] ?_; intro jR cm; clear ba
  refine sx cm a9 0 [i6 0, .bool false, .bool false, .bool false, i6 0, .slice none 0 0] 0 ?_; intro gy dh; clear a9
  refine s1 cm 5 (i6 (mcheckS u0)) ?_; intro jS di; clear cm
  have dj : Mem w.heap.size [] w Z [.row q [i6 0, .bool false, .bool false, .bool false, i6 0, .slice none 0 0] 53, .row p (e51Md u0 ao1 cap2) 51] Z gy := dh; clear dh
  refine nlH (dg _ _ ?_); clear dg gx
  refine wp_ret ?_
  refine thr ?_
  refine rt (fn := Try.f18) (v := .tuple #[.agg #[i6 0, .bool false, .bool false, .bool false, i6 0, .slice none 0 0], i6 (mcheckS u0)]) di (re2c di (fn := Try.f18) rfl (ad := ⟨q, 0, none⟩) (by kernel_rfl) (loadVar_run dj 0 (b := q) (k := 6) (vs := [i6 0, .bool false, .bool false, .bool false, i6 0, .slice none 0 0]) (ty := 53) rfl (by kernel_rfl) (by kernel_rfl)) (by kernel_rfl)) ?_
  exact ⟨((⟨0, false, false, false, 0, []⟩ : Frame), (mcheckS u0)), none, 0, Z, rfl, gw, (SlR.nil _ _), dj.keep (List.Sublist.cons _ (List.Sublist.cons _ (List.Sublist.slnil)))⟩
 have gz := bA.2 cl; clear bA
 refine wp_skip ?_
 refine thn ?_
 have gA : Fr 102 [] [⟨1, [], .slice ao4 u1.length cap5⟩, ⟨2, [], pt p 0⟩, ⟨4, [], pt q 0⟩] al := ba.reg; clear ba
 obtain ⟨jT, gB⟩ := gz
 refine wp_seq (any_invE mixed [[], [0], [], [2], [], [4], [5], [1, 3, 6], [], [0, 1, 2, 3, 4, 5, 6, 7, 8]] 10 (fun S a L => ∃ (l : Nat) (n : Nat) (V : Value) (am : Value) (ac : Value) (an : Value) (ae : Value) (aA : Value) (ao : Value) (af : Value) (W : Value) (bC : Res) (bD : Res) (ap : Res) (P : Res), Fz.le Z Z ∧ Fr 102 [] [⟨1, [], .slice ao4 u1.length cap5⟩, ⟨2, [], pt p 0⟩, ⟨4, [], pt q 0⟩, ⟨7, [], V⟩, ⟨24, [], am⟩, ⟨25, [], ac⟩, ⟨26, [], an⟩, ⟨27, [], ae⟩, ⟨28, [], aA⟩, ⟨29, [], ao⟩, ⟨30, [], af⟩, ⟨31, [], W⟩] a ∧ Mem w.heap.size [] w Z [bC, bD, ap, P] Z L ∧ (S 8 = true → V = pt n 0) ∧ (S 0 = true → am = pt p 0) ∧ (S 1 = true → ac = i6 u0.ID) ∧ (S 2 = true → an = pt p 1) ∧ (S 3 = true → ae = .bool u0.Long) ∧ (S 4 = true → aA = pt p 3) ∧ (S 5 = true → ao = i6 u0.Size) ∧ (S 6 = true → af = .slice (sm l) (List.replicate u0.Size.toNat (0 : Int)).length u0.Size.toNat) ∧ (S 7 = true → W = .agg #[i6 u0.ID, .bool u0.Long, .bool false, .bool false, i6 0, .slice (sm l) (List.replicate u0.Size.toNat (0 : Int)).length u0.Size.toNat]) ∧ (bC = .row q [i6 0, .bool false, .bool false, .bool false, i6 0, .slice none 0 0] 53) ∧ (bD = .row p (e51Md u0 ao1 cap2) 51) ∧ (S 6 = false → ap = .nil) ∧ (S 6 = true → ap = .own t8 5 (sm l) u0.Size.toNat (List.replicate u0.Size.toNat (0 : Int))) ∧ (S 8 = false → P = .nil) ∧ (S 8 = true → S 9 = false → P = .row n [i6 0, .bool false, .bool false, .bool false, i6 0, .slice none 0 0] 53) ∧ (S 9 = true → P = .row n [i6 u0.ID, .bool u0.Long, .bool false, .bool false, i6 0, .slice (sm l) (List.replicate u0.Size.toNat (0 : Int)).length u0.Size.toNat] 53)) ?h0 ?hs ?hE)
 case h0 =>
  have gC := gA.any 7
  have gD := gC.any 24
  have gE := gD.any 25
  have gF := gE.any 26
  have gG := gF.any 27
  have gH := gG.any 28
  have gI := gH.any 29
  have gJ := gI.any 30
  have gK := gJ.any 31
  have gL := a9.nilRes
  have gM := gL.nilRes
  have gN := (gM.perm ((pk 2 rfl).trans (((pk 2 rfl).trans (((pk 1 rfl).trans (lpr.cons _)).cons _)).cons _))).drew
  exact ⟨0, 0, al.tmps.getD 7 undef, al.tmps.getD 24 undef, al.tmps.getD 25 undef, al.tmps.getD 26 undef, al.tmps.getD 27 undef, al.tmps.getD 28 undef, al.tmps.getD 29 undef, al.tmps.getD 30 undef, al.tmps.getD 31 undef, .row q [i6 0, .bool false, .bool false, .bool false, i6 0, .slice none 0 0] 53, .row p (e51Md u0 ao1 cap2) 51, .nil, .nil, Fz.le.refl _, gK.reg, gN, ff, ff, ff, ff, ff, ff, ff, ff, ff, rfl, rfl, kf, ff, kf, ff, ff⟩
 case hs =>
  intro S hcl i o hil hi hSi hpre a L hI; refine Go.Sy.hid ?_; intro G hG; obtain ⟨l, n, V, am, ac, an, ae, aA, ao, af, W, bC, bD, ap, P, C, hFx, hMx, ag, ah, aq, ai, ar, aj, au, aB, bE, X, Y, aC, aD, av, aw, hI⟩ := hI; have dk := hI; clear hI
  have hcase : i = 0 ∨ i = 1 ∨ i = 2 ∨ i = 3 ∨ i = 4 ∨ i = 5 ∨ i = 6 ∨ i = 7 ∨ i = 8 ∨ i = 9 := by clear hi; omega
  rcases hcase with rfl | rfl | rfl | rfl | rfl | rfl | rfl | rfl | rfl | rfl
  ·
   obtain rfl := oj hi
   have aJ := hSi
   have ax := ngF hcl 1 0 aJ
   have O := ngF hcl 7 1 ax
   have M := ngF hcl 9 0 aJ
   obtain rfl := X
   obtain rfl := Y
   refine hG (any_step ?_); clear hG G; intro A J hJ
   have D := Fz.le.trans D C
   have jU := hs3.mono C
   have jV := hs6.mono C
   refine s1 hFx 24 (pt p 0) ?_; intro jW gO; clear hFx
   refine nl (qnI (hJ _ _ ?_)); clear hJ J
   exact ⟨l, n, V, pt p 0, ac, an, ae, aA, ao, af, W, .row q [i6 0, .bool false, .bool false, .bool false, i6 0, .slice none 0 0] 53, .row p (e51Md u0 ao1 cap2) 51, ap, P, C, gO.reg, hMx.perm lpr, ag, kf, (nt ax), ai, ar, aj, au, aB, (nt O), rfl, rfl, aC, aD, av, aw, (nt M)⟩
  ·
   obtain rfl := oj hi
   have aJ := hpre 0 (by kernel_rfl)
   have ax := hSi
   have O := ngF hcl 7 1 ax
   have M := ngF hcl 9 1 ax
   obtain rfl := ah aJ
   obtain rfl := X
   obtain rfl := Y
   refine hG (any_step ?_); clear hG G; intro A J hJ
   have D := Fz.le.trans D C
   have jX := hs3.mono C
   have jY := hs6.mono C
   refine l1 hFx hMx 25 1 0 (i6 u0.ID) rfl rfl ?_; intro jZ gP; clear hFx
   refine nl (qnI (hJ _ _ ?_)); clear hJ J
   exact ⟨l, n, V, pt p 0, i6 u0.ID, an, ae, aA, ao, af, W, .row q [i6 0, .bool false, .bool false, .bool false, i6 0, .slice none 0 0] 53, .row p (e51Md u0 ao1 cap2) 51, ap, P, C, gP.reg, hMx.perm lpr, ag, kf, kf, ai, ar, aj, au, aB, (nt O), rfl, rfl, aC, aD, av, aw, (nt M)⟩
  ·
   obtain rfl := oj hi
   have aK := hSi
   have ay := ngF hcl 3 2 aK
   have O := ngF hcl 7 3 ay
   have M := ngF hcl 9 2 aK
   obtain rfl := X
   obtain rfl := Y
   refine hG (any_step ?_); clear hG G; intro A J hJ
   have D := Fz.le.trans D C
   have j0 := hs3.mono C
   have j1 := hs6.mono C
   refine s1 hFx 26 (pt p 1) ?_; intro j2 gQ; clear hFx
   refine nl (qnI (hJ _ _ ?_)); clear hJ J
   exact ⟨l, n, V, am, ac, pt p 1, ae, aA, ao, af, W, .row q [i6 0, .bool false, .bool false, .bool false, i6 0, .slice none 0 0] 53, .row p (e51Md u0 ao1 cap2) 51, ap, P, C, gQ.reg, hMx.perm lpr, ag, ah, aq, kf, (nt ay), aj, au, aB, (nt O), rfl, rfl, aC, aD, av, aw, (nt M)⟩
  ·
   obtain rfl := oj hi
   have aK := hpre 2 (by kernel_rfl)
   have ay := hSi
   have O := ngF hcl 7 3 ay
   have M := ngF hcl 9 3 ay
   obtain rfl := ai aK
   obtain rfl := X
   obtain rfl := Y
   refine hG (any_step ?_); clear hG G; intro A J hJ
   have D := Fz.le.trans D C
   have j3 := hs3.mono C
   have j4 := hs6.mono C
   refine l1 hFx hMx 27 1 1 (.bool u0.Long) rfl rfl ?_; intro j5 gR; clear hFx
   refine nl (qnI (hJ _ _ ?_)); clear hJ J
   exact ⟨l, n, V, am, ac, pt p 1, .bool u0.Long, aA, ao, af, W, .row q [i6 0, .bool false, .bool false, .bool false, i6 0, .slice none 0 0] 53, .row p (e51Md u0 ao1 cap2) 51, ap, P, C, gR.reg, hMx.perm lpr, ag, ah, aq, kf, kf, aj, au, aB, (nt O), rfl, rfl, aC, aD, av, aw, (nt M)⟩
  ·
   obtain rfl := oj hi
   have az := hSi
   have R := ngF hcl 5 4 az
   have I := ngF hcl 6 5 R
   have O := ngF hcl 7 6 I
   have M := ngF hcl 9 4 az
   obtain rfl := X
   obtain rfl := Y
   obtain rfl := aC I
   refine hG (any_step ?_); clear hG G; intro A J hJ
   have D := Fz.le.trans D C
   have j6 := hs3.mono C
   have j7 := hs6.mono C
   have gS := hMx.keep (List.Sublist.cons_cons _ (List.Sublist.cons_cons _ (List.Sublist.cons _ (List.Sublist.cons_cons _ (List.Sublist.slnil))))); clear hMx
   refine s1 hFx 28 (pt p 3) ?_; intro j8 gT; clear hFx
   refine nl (qnI (hJ _ _ ?_)); clear hJ J
   have gU := gS.nilRes
   exact ⟨l, n, V, am, ac, an, ae, pt p 3, ao, af, W, .row q [i6 0, .bool false, .bool false, .bool false, i6 0, .slice none 0 0] 53, .row p (e51Md u0 ao1 cap2) 51, .nil, P, C, gT.reg, gU.perm ((pk 1 rfl).trans (((pk 1 rfl).trans (lpr.cons _)).cons _)), ag, ah, aq, ai, ar, kf, (nt R), (nt I), (nt O), rfl, rfl, kf, (nt I), av, aw, (nt M)⟩
  ·
   obtain rfl := oj hi
   have az := hpre 4 (by kernel_rfl)
   have R := hSi
   have I := ngF hcl 6 5 R
   have O := ngF hcl 7 6 I
   have M := ngF hcl 9 5 R
   obtain rfl := aj az
   obtain rfl := X
   obtain rfl := Y
   obtain rfl := aC I
   refine hG (any_step ?_); clear hG G; intro A J hJ
   have D := Fz.le.trans D C
   have j9 := hs3.mono C
   have ka := hs6.mono C
   have dl := hMx.keep (List.Sublist.cons_cons _ (List.Sublist.cons_cons _ (List.Sublist.cons _ (List.Sublist.cons_cons _ (List.Sublist.slnil))))); clear hMx
   refine l1 hFx dl 29 1 3 (i6 u0.Size) rfl rfl ?_; intro kb gV; clear hFx
   refine nl (qnI (hJ _ _ ?_)); clear hJ J
   have gW := dl.nilRes
   exact ⟨l, n, V, am, ac, an, ae, pt p 3, i6 u0.Size, af, W, .row q [i6 0, .bool false, .bool false, .bool false, i6 0, .slice none 0 0] 53, .row p (e51Md u0 ao1 cap2) 51, .nil, P, C, gV.reg, gW.perm ((pk 1 rfl).trans (((pk 1 rfl).trans (lpr.cons _)).cons _)), ag, ah, aq, ai, ar, kf, kf, (nt I), (nt O), rfl, rfl, kf, (nt I), av, aw, (nt M)⟩
  ·
   obtain rfl := oj hi
   have R := hpre 5 (by kernel_rfl)
   have az := hcl 5 4 (by kernel_rfl) R
   have I := hSi
   have O := ngF hcl 7 6 I
   have M := ngF hcl 9 6 I
   obtain rfl := aj az
   obtain rfl := au R
   obtain rfl := X
   obtain rfl := Y
   obtain rfl := aC I
   refine hG (any_step ?_); clear hG G; intro A J hJ
   have D := Fz.le.trans D C
   have kc := hs3.mono C
   have kd := hs6.mono C
   have dm := hMx.keep (List.Sublist.cons_cons _ (List.Sublist.cons_cons _ (List.Sublist.cons _ (List.Sublist.cons_cons _ (List.Sublist.slnil))))); clear hMx
   refine mks hFx dm (T := t8) u0.Size u0.Size (k := .i64) (k' := .i64) (e := 5) (bytes := 1) (zs := [y8 0]) (z := 0) (by simp only [lim]; omega) (nog rfl _) rfl (by kernel_rfl) rfl (by kernel_rfl) (by kernel_rfl) (by kernel_rfl) (by kernel_rfl) rfl ?_; intro bF ke gX gY dn; clear hFx dm
   have gZ : Mem w.heap.size [] w Z [.own t8 5 (sm bF) u0.Size.toNat (List.replicate u0.Size.toNat (0 : Int)), .row q [i6 0, .bool false, .bool false, .bool false, i6 0, .slice none 0 0] 53, .row p (e51Md u0 ao1 cap2) 51, P] Z gX := dn; clear dn
   refine nl (qnI (hJ _ _ ?_)); clear hJ J
   exact ⟨bF, n, V, am, ac, an, ae, pt p 3, i6 u0.Size, .slice (sm bF) (List.replicate u0.Size.toNat (0 : Int)).length u0.Size.toNat, W, .row q [i6 0, .bool false, .bool false, .bool false, i6 0, .slice none 0 0] 53, .row p (e51Md u0 ao1 cap2) 51, .own t8 5 (sm bF) u0.Size.toNat (List.replicate u0.Size.toNat (0 : Int)), P, C, gY.reg, gZ.perm ((pk 1 rfl).trans (((pk 1 rfl).trans (lpr.cons _)).cons _)), ag, ah, aq, ai, ar, kf, kf, kf, (nt O), rfl, rfl, nu, kf, av, aw, (nt M)⟩
  ·
   obtain rfl := oj hi
   have I := hpre 6 (by kernel_rfl)
   have ay := hpre 3 (by kernel_rfl)
   have ax := hpre 1 (by kernel_rfl)
   have R := hcl 6 5 (by kernel_rfl) I
   have aK := hcl 3 2 (by kernel_rfl) ay
   have aJ := hcl 1 0 (by kernel_rfl) ax
   have az := hcl 5 4 (by kernel_rfl) R
   have O := hSi
   have M := ngF hcl 9 7 O
   obtain rfl := ah aJ
   obtain rfl := aq ax
   obtain rfl := ai aK
   obtain rfl := ar ay
   obtain rfl := aj az
   obtain rfl := au R
   obtain rfl := aB I
   obtain rfl := X
   obtain rfl := Y
   obtain rfl := aD I
   refine hG (any_step ?_); clear hG G; intro A J hJ
   have D := Fz.le.trans D C
   have kg := hs3.mono C
   have kh := hs6.mono C
   refine s1 hFx 31 (.agg #[i6 u0.ID, .bool u0.Long, .bool false, .bool false, i6 0, .slice (sm l) (List.replicate u0.Size.toNat (0 : Int)).length u0.Size.toNat]) ?_; intro ki g0; clear hFx
   refine nl (qnI (hJ _ _ ?_)); clear hJ J
   exact ⟨l, n, V, pt p 0, i6 u0.ID, pt p 1, .bool u0.Long, pt p 3, i6 u0.Size, .slice (sm l) (List.replicate u0.Size.toNat (0 : Int)).length u0.Size.toNat, .agg #[i6 u0.ID, .bool u0.Long, .bool false, .bool false, i6 0, .slice (sm l) (List.replicate u0.Size.toNat (0 : Int)).length u0.Size.toNat], .row q [i6 0, .bool false, .bool false, .bool false, i6 0, .slice none 0 0] 53, .row p (e51Md u0 ao1 cap2) 51, .own t8 5 (sm l) u0.Size.toNat (List.replicate u0.Size.toNat (0 : Int)), P, C, g0.reg, hMx.perm lpr, ag, kf, kf, kf, kf, kf, kf, kf, kf, rfl, rfl, (tn I), kf, av, aw, (nt M)⟩
  ·
   obtain rfl := oj hi
   have aX := hSi
   have M := ngF hcl 9 8 aX
   obtain rfl := X
   obtain rfl := Y
   obtain rfl := av aX
   refine hG (any_step ?_); clear hG G; intro A J hJ
   have D := Fz.le.trans D C
   have kj := hs3.mono C
   have kk := hs6.mono C
   have dp := hMx.keep (List.Sublist.cons_cons _ (List.Sublist.cons_cons _ (List.Sublist.cons_cons _ (List.Sublist.cons _ (List.Sublist.slnil))))); clear hMx
   refine nw hFx dp pb [i6 0, .bool false, .bool false, .bool false, i6 0, .slice none 0 0] 53 ?_; intro cn kl km g1 g2; clear hFx dp
   refine nl (qnI (hJ _ _ ?_)); clear hJ J
   exact ⟨l, cn, pt cn 0, am, ac, an, ae, aA, ao, af, W, .row q [i6 0, .bool false, .bool false, .bool false, i6 0, .slice none 0 0] 53, .row p (e51Md u0 ao1 cap2) 51, ap, .row cn [i6 0, .bool false, .bool false, .bool false, i6 0, .slice none 0 0] 53, C, g1.reg, g2.perm ((pk 1 rfl).trans (((pk 1 rfl).trans (((pk 1 rfl).trans (lpr.cons _)).cons _)).cons _)), kf, ah, aq, ai, ar, aj, au, aB, bE, rfl, rfl, aC, aD, nu, kf2, (nt M)⟩
  obtain rfl := oj hi
  have aX := hpre 8 (by kernel_rfl)
  have O := hpre 7 (by kernel_rfl)
  have I := hpre 6 (by kernel_rfl)
  have R := hpre 5 (by kernel_rfl)
  have az := hpre 4 (by kernel_rfl)
  have ay := hpre 3 (by kernel_rfl)
  have aK := hpre 2 (by kernel_rfl)
  have ax := hpre 1 (by kernel_rfl)
  have aJ := hpre 0 (by kernel_rfl)
  have M := hSi
  obtain rfl := ag aX
  obtain rfl := ah aJ
  obtain rfl := aq ax
  obtain rfl := ai aK
  obtain rfl := ar ay
  obtain rfl := aj az
  obtain rfl := au R
  obtain rfl := aB I
  obtain rfl := bE O
  obtain rfl := X
  obtain rfl := Y
  obtain rfl := aD I
  obtain rfl := aw aX M
  refine hG (any_step ?_); clear hG G; intro A J hJ
  have D := Fz.le.trans D C
  have kn := hs3.mono C
  have ko := hs6.mono C
  refine sx hFx hMx 3 [i6 u0.ID, .bool u0.Long, .bool false, .bool false, i6 0, .slice (sm l) (List.replicate u0.Size.toNat (0 : Int)).length u0.Size.toNat] 0 ?_; intro kp g3; clear hMx
  refine nl (qnI (hJ _ _ ?_)); clear hJ J
  exact ⟨l, n, pt n 0, pt p 0, i6 u0.ID, pt p 1, .bool u0.Long, pt p 3, i6 u0.Size, .slice (sm l) (List.replicate u0.Size.toNat (0 : Int)).length u0.Size.toNat, .agg #[i6 u0.ID, .bool u0.Long, .bool false, .bool false, i6 0, .slice (sm l) (List.replicate u0.Size.toNat (0 : Int)).length u0.Size.toNat], .row q [i6 0, .bool false, .bool false, .bool false, i6 0, .slice none 0 0] 53, .row p (e51Md u0 ao1 cap2) 51, .own t8 5 (sm l) u0.Size.toNat (List.replicate u0.Size.toNat (0 : Int)), .row n [i6 u0.ID, .bool u0.Long, .bool false, .bool false, i6 0, .slice (sm l) (List.replicate u0.Size.toNat (0 : Int)).length u0.Size.toNat] 53, C, hFx.reg, g3.perm lpr, kf, kf, kf, kf, kf, kf, kf, kf, kf, rfl, rfl, (tn I), kf, (tn aX), (fun _ => nu), kf⟩
 case hE =>
  intro S hS g4 kq hI; refine Go.Sy.hid ?_; intro G hG; obtain ⟨l, n, V, am, ac, an, ae, aA, ao, af, W, bC, bD, ap, P, C, hFx, hMx, ag, ah, aq, ai, ar, aj, au, aB, bE, X, Y, aC, aD, av, aw, hI⟩ := hI; have dk := hI; clear hI; refine hG ?_; clear hG G
  obtain rfl := ag (hS 8 (by decide))
  obtain rfl := ah (hS 0 (by decide))
  obtain rfl := aq (hS 1 (by decide))
  obtain rfl := ai (hS 2 (by decide))
  obtain rfl := ar (hS 3 (by decide))
  obtain rfl := aj (hS 4 (by decide))
  obtain rfl := au (hS 5 (by decide))
  obtain rfl := aB (hS 6 (by decide))
  obtain rfl := bE (hS 7 (by decide))
  obtain rfl := X
  obtain rfl := Y
  obtain rfl := aD (hS 6 (by decide))
  obtain rfl := dk (hS 9 (by decide))
  have D := Fz.le.trans D C
  have bb := hs3.mono C
  have bc := hs6.mono C
  refine thn ?_
  have dq : Fr 102 [] [⟨1, [], .slice ao4 u1.length cap5⟩, ⟨2, [], pt p 0⟩, ⟨4, [], pt q 0⟩, ⟨7, [], pt n 0⟩] g4 := hFx.reg; clear hFx
  refine sqH ?_; intro g5 dr
  refine mkm dq hMx (fun x : List UInt8 => str x) (fun x : Reading => .agg (e30Md x).toArray) (t := 88) (nog rfl _) rfl (by kernel_rfl) rfl ?_; intro u kr g6 ds dt; clear dq hMx
  have du : Mem w.heap.size [] w Z [.map (fun x : List UInt8 => str x) (fun x : Reading => .agg (e30Md x).toArray) u ([] : List (List UInt8 × Reading)), .row q [i6 0, .bool false, .bool false, .bool false, i6 0, .slice none 0 0] 53, .row p (e51Md u0 ao1 cap2) 51, .own t8 5 (sm l) u0.Size.toNat (List.replicate u0.Size.toNat (0 : Int)), .row n [i6 u0.ID, .bool u0.Long, .bool false, .bool false, i6 0, .slice (sm l) (List.replicate u0.Size.toNat (0 : Int)).length u0.Size.toNat] 53] Z g6 := dt; clear dt
  refine nw ds du pb [.map none] 88 ?_; intro y ks ku co dv; clear ds du
  refine sx co dv 0 [.map (some u)] 0 ?_; intro g7 dw; clear dv
  have bG : Mem w.heap.size [] w Z [.row y [.map (some u)] 88, .map (fun x : List UInt8 => str x) (fun x : Reading => .agg (e30Md x).toArray) u ([] : List (List UInt8 × Reading)), .row q [i6 0, .bool false, .bool false, .bool false, i6 0, .slice none 0 0] 53, .row p (e51Md u0 ao1 cap2) 51, .own t8 5 (sm l) u0.Size.toNat (List.replicate u0.Size.toNat (0 : Int)), .row n [i6 u0.ID, .bool u0.Long, .bool false, .bool false, i6 0, .slice (sm l) (List.replicate u0.Size.toNat (0 : Int)).length u0.Size.toNat] 53] Z g7 := dw; clear dw
  refine nlH (dr _ _ ?_); clear dr g5
  refine wp_seq ?_
  refine sqB co bG [] [] [(33, .slice ao4 u1.length cap5), (34, i6 (u1.length : Int)), (35, i6 0)] ?_; intro bH dx; clear co
  have dy : Fr 102 [] [⟨2, [], pt p 0⟩, ⟨4, [], pt q 0⟩, ⟨7, [], pt n 0⟩, ⟨8, [], pt y 0⟩, ⟨33, [], .slice ao4 u1.length cap5⟩, ⟨34, [], i6 (u1.length : Int)⟩, ⟨35, [], i6 0⟩] bH := dx.reg; clear dx
  have cp : Fr 102 [] [⟨2, [], pt p 0⟩, ⟨4, [], pt q 0⟩, ⟨7, [], pt n 0⟩, ⟨8, [], pt y 0⟩, ⟨33, [], .slice ao4 u1.length cap5⟩, ⟨34, [], i6 (u1.length : Int)⟩, ⟨35, [], i6 0⟩] bH := dy.reg; clear dy
  obtain ⟨g8, g9, ha⟩ := gB
  refine wp_then_k fun KJ186 hKJ187 => ?_
  have hb : ∀ (j : List (List UInt8 × Reading)), g8 j → ∀ a1 L, Fr 102 [] [⟨2, [], pt p 0⟩, ⟨4, [], pt q 0⟩, ⟨7, [], pt n 0⟩, ⟨8, [], pt y 0⟩] a1 → Mem w.heap.size [] w Z [.row y [.map (some u)] 88, .map (fun x : List UInt8 => str x) (fun x : Reading => .agg (e30Md x).toArray) u j, .row q [i6 0, .bool false, .bool false, .bool false, i6 0, .slice none 0 0] 53, .row p (e51Md u0 ao1 cap2) 51, .own t8 5 (sm l) u0.Size.toNat (List.replicate u0.Size.toNat (0 : Int)), .row n [i6 u0.ID, .bool u0.Long, .bool false, .bool false, i6 0, .slice (sm l) (List.replicate u0.Size.toNat (0 : Int)).length u0.Size.toNat] 53] Z L → KJ186 a1 L := by
   rintro j hc kv kw dz aL; clear cp bG
   refine hKJ187 _ _ ?_; clear hKJ187
   have hd := ha j hc
   refine sqB dz aL [] [] [(13, .func (.func 43) #[] #[pt y 0, pt n 0])] ?_; intro kx dA; clear dz
   refine wp_seq ?_
   refine sqB dA aL [3] [] [(56, .bool (decide (u0.Chooser ≥ 0)))] ?_; intro dB dC; clear dA
   have dD : Fr 102 [] [⟨2, [], pt p 0⟩, ⟨4, [], pt q 0⟩, ⟨7, [], pt n 0⟩, ⟨8, [], pt y 0⟩, ⟨13, [], .func (.func 43) #[] #[pt y 0, pt n 0]⟩, ⟨56, [], .bool (decide (u0.Chooser ≥ 0))⟩] dB := dC.reg; clear dC
   have bd : Fr 102 [] [⟨2, [], pt p 0⟩, ⟨4, [], pt q 0⟩, ⟨7, [], pt n 0⟩, ⟨8, [], pt y 0⟩, ⟨13, [], .func (.func 43) #[] #[pt y 0, pt n 0]⟩, ⟨56, [], .bool (decide (u0.Chooser ≥ 0))⟩] dB := dD.reg; clear dD
   obtain ⟨he, bI, hf⟩ := hd
   refine wp_then_k fun KJ212 hKJ213 => ?_
   have dE : ∀ (F : List (List UInt8 × Reading)) (aY : List Int) (aP : Fz), he F aY ∧ Fz.le Z aP → ∀ a1 L, Fr 102 [] [⟨2, [], pt p 0⟩, ⟨4, [], pt q 0⟩, ⟨7, [], pt n 0⟩, ⟨8, [], pt y 0⟩, ⟨13, [], .func (.func 43) #[] #[pt y 0, pt n 0]⟩] a1 → Mem w.heap.size [] w Z [.row y [.map (some u)] 88, .map (fun x : List UInt8 => str x) (fun x : Reading => .agg (e30Md x).toArray) u F, .row q [i6 0, .bool false, .bool false, .bool false, i6 0, .slice none 0 0] 53, .row p (e51Md u0 ao1 cap2) 51, .own t8 5 (sm l) u0.Size.toNat aY, .row n [i6 u0.ID, .bool u0.Long, .bool false, .bool false, i6 0, .slice (sm l) aY.length u0.Size.toNat] 53] aP L → KJ212 a1 L := by
    rintro F aY aP ⟨hg, be⟩ ky kz dF bJ; clear bd aL
    refine hKJ213 _ _ ?_; clear hKJ213
    have hh := hf F aY hg
    replace D := Fz.le.trans D be
    have dG := bb.mono be
    have dH := bc.mono be
    refine wp_seq ?_
    refine sqB dF bJ [3] [] [(70, .slice ao1 u0.Signals.length cap2), (71, i6 (u0.Signals.length : Int)), (72, i6 0)] ?_; intro bK dI; clear dF
    have dJ : Fr 102 [] [⟨2, [], pt p 0⟩, ⟨4, [], pt q 0⟩, ⟨7, [], pt n 0⟩, ⟨8, [], pt y 0⟩, ⟨13, [], .func (.func 43) #[] #[pt y 0, pt n 0]⟩, ⟨70, [], .slice ao1 u0.Signals.length cap2⟩, ⟨71, [], i6 (u0.Signals.length : Int)⟩, ⟨72, [], i6 0⟩] bK := dI.reg; clear dI
    have cq : Fr 102 [] [⟨2, [], pt p 0⟩, ⟨4, [], pt q 0⟩, ⟨7, [], pt n 0⟩, ⟨8, [], pt y 0⟩, ⟨13, [], .func (.func 43) #[] #[pt y 0, pt n 0]⟩, ⟨70, [], .slice ao1 u0.Signals.length cap2⟩, ⟨71, [], i6 (u0.Signals.length : Int)⟩, ⟨72, [], i6 0⟩] bK := dJ.reg; clear dJ
    obtain ⟨hj, hk, hl⟩ := hh
    refine wp_then_k fun KJ237 hKJ238 => ?_
    have hn : ∀ (aE : List (List UInt8 × Reading)) (H : List Int) (aZ : Fz), hj aE H ∧ Fz.le aP aZ → ∀ a1 L, Fr 102 [] [⟨4, [], pt q 0⟩, ⟨7, [], pt n 0⟩, ⟨8, [], pt y 0⟩] a1 → Mem w.heap.size [] w Z [.row y [.map (some u)] 88, .map (fun x : List UInt8 => str x) (fun x : Reading => .agg (e30Md x).toArray) u aE, .row q [i6 0, .bool false, .bool false, .bool false, i6 0, .slice none 0 0] 53, .row p (e51Md u0 ao1 cap2) 51, .own t8 5 (sm l) u0.Size.toNat H, .row n [i6 u0.ID, .bool u0.Long, .bool false, .bool false, i6 0, .slice (sm l) H.length u0.Size.toNat] 53] aZ L → KJ237 a1 L := by
     rintro aE H aZ ⟨ho, a2⟩ kA kB dK aQ; clear cq bJ
     refine hKJ238 _ _ ?_; clear hKJ238
     have bL := hl aE H ho
     replace D := Fz.le.trans D a2
     have dL := dG.mono a2
     have dM := dH.mono a2
     have dN := be.mono a2
     refine wp_seq ?_
     refine sqH ?_; intro hq dO
     refine l1 dK aQ 97 0 0 (.map (some u)) rfl rfl ?_; intro kC dP; clear dK
     refine mln dP aQ 1 (t := 88) (kt := 9) (et := 30) (nog rfl _) rfl (by kernel_rfl) rfl (by kernel_rfl) rfl (by kernel_rfl) ?_; intro kD dQ; clear dP
     refine s1 dQ 99 (.bool (decide ((aE.length : Int) > 0))) ?_; intro kE bf; clear dQ
     refine nlH (dO _ _ ?_); clear dO hq
     refine cd bf (t := decide ((aE.length : Int) > 0)) (by kernel_rfl) (fun cr => ?_) (fun cr => ?_)
     ·
      have hr := bL.1 cr; clear bL
      refine sqH ?_; intro ht dR
      refine s1 bf 100 (.agg #[i6 0, .bool false, .bool false, .bool false, i6 0, .slice none 0 0]) ?_; intro kF cs; clear bf
      refine sx cs aQ 2 [i6 0, .bool false, .bool false, .bool false, i6 0, .slice none 0 0] 0 ?_; intro hu dS; clear aQ
      refine s1 cs 5 (i6 8) ?_; intro kG dT; clear cs
      have dU : Mem w.heap.size [] w Z [.row y [.map (some u)] 88, .map (fun x : List UInt8 => str x) (fun x : Reading => .agg (e30Md x).toArray) u aE, .row q [i6 0, .bool false, .bool false, .bool false, i6 0, .slice none 0 0] 53, .row p (e51Md u0 ao1 cap2) 51, .own t8 5 (sm l) u0.Size.toNat H, .row n [i6 u0.ID, .bool u0.Long, .bool false, .bool false, i6 0, .slice (sm l) H.length u0.Size.toNat] 53] aZ hu := dS; clear dS
      refine nlH (dR _ _ ?_); clear dR ht
      refine wp_ret ?_
      refine thr ?_
      refine rt (fn := Try.f18) (v := .tuple #[.agg #[i6 0, .bool false, .bool false, .bool false, i6 0, .slice none 0 0], i6 8]) dT (re2c dT (fn := Try.f18) rfl (ad := ⟨q, 0, none⟩) (by kernel_rfl) (loadVar_run dU 2 (b := q) (k := 6) (vs := [i6 0, .bool false, .bool false, .bool false, i6 0, .slice none 0 0]) (ty := 53) rfl (by kernel_rfl) (by kernel_rfl)) (by kernel_rfl)) ?_
      exact ⟨((⟨0, false, false, false, 0, []⟩ : Frame), 8), none, 0, aZ, rfl, hr, (SlR.nil _ _), dU.keep (List.Sublist.cons _ (List.Sublist.cons _ (List.Sublist.cons _ (List.Sublist.cons _ (List.Sublist.cons _ (List.Sublist.cons _ (List.Sublist.slnil)))))))⟩
     have hv := bL.2 cr; clear bL
     refine wp_skip ?_
     refine thn ?_
     refine sqH ?_; intro hw dV
     refine l2 bf aQ 101 5 0 6 [i6 u0.ID, .bool u0.Long, .bool false, .bool false, i6 0, .slice (sm l) H.length u0.Size.toNat] rfl rfl ?_; intro kH ct; clear bf
     refine sx ct aQ 2 [i6 u0.ID, .bool u0.Long, .bool false, .bool false, i6 0, .slice (sm l) H.length u0.Size.toNat] 0 ?_; intro dW dX; clear aQ
     refine s1 ct 5 (i6 0) ?_; intro kI dY; clear ct
     have hx : Mem w.heap.size [] w Z [.row y [.map (some u)] 88, .map (fun x : List UInt8 => str x) (fun x : Reading => .agg (e30Md x).toArray) u aE, .row q [i6 u0.ID, .bool u0.Long, .bool false, .bool false, i6 0, .slice (sm l) H.length u0.Size.toNat] 53, .row p (e51Md u0 ao1 cap2) 51, .own t8 5 (sm l) u0.Size.toNat H, .row n [i6 u0.ID, .bool u0.Long, .bool false, .bool false, i6 0, .slice (sm l) H.length u0.Size.toNat] 53] aZ dW := dX; clear dX
     refine nlH (dV _ _ ?_); clear dV hw
     refine wp_ret ?_
     obtain ⟨dZ, bg, d0, hy⟩ := hx.freeze 4 rfl
     replace dL := dL.mono bg
     replace dM := dM.mono bg
     replace dN := dN.mono bg
     replace a2 := a2.mono bg
     replace D := Fz.le.trans D bg
     have d1 : Mem w.heap.size [] w Z [.row y [.map (some u)] 88, .map (fun x : List UInt8 => str x) (fun x : Reading => .agg (e30Md x).toArray) u aE, .row q [i6 u0.ID, .bool u0.Long, .bool false, .bool false, i6 0, .slice (sm l) H.length u0.Size.toNat] 53, .row p (e51Md u0 ao1 cap2) 51, .row n [i6 u0.ID, .bool u0.Long, .bool false, .bool false, i6 0, .slice (sm l) H.length u0.Size.toNat] 53] dZ dW := d0; clear d0
     refine rt (fn := Try.f18) (v := .tuple #[.agg #[i6 u0.ID, .bool u0.Long, .bool false, .bool false, i6 0, .slice (sm l) H.length u0.Size.toNat], i6 0]) dY (re2c dY (fn := Try.f18) rfl (ad := ⟨q, 0, none⟩) (by kernel_rfl) (loadVar_run d1 2 (b := q) (k := 6) (vs := [i6 u0.ID, .bool u0.Long, .bool false, .bool false, i6 0, .slice (sm l) H.length u0.Size.toNat]) (ty := 53) rfl (by kernel_rfl) (by kernel_rfl)) (by kernel_rfl)) ?_
     exact ⟨((⟨u0.ID, u0.Long, false, false, 0, H⟩ : Frame), 0), (sm l), u0.Size.toNat, dZ, rfl, hv, hy, d1.keep (List.Sublist.cons _ (List.Sublist.cons _ (List.Sublist.cons _ (List.Sublist.cons _ (List.Sublist.cons _ (List.Sublist.slnil))))))⟩
    have hz := Fz.le.refl aP
    refine wp_block ?_
    have d2 : Fr 102 [] [⟨2, [], pt p 0⟩, ⟨4, [], pt q 0⟩, ⟨7, [], pt n 0⟩, ⟨8, [], pt y 0⟩, ⟨13, [], .func (.func 43) #[] #[pt y 0, pt n 0]⟩, ⟨70, [], .slice ao1 u0.Signals.length cap2⟩, ⟨71, [], i6 (u0.Signals.length : Int)⟩, ⟨72, [], i6 0⟩] bK := cq.reg; clear cq
    have d3 : Fr 102 [] [⟨2, [], pt p 0⟩, ⟨4, [], pt q 0⟩, ⟨7, [], pt n 0⟩, ⟨8, [], pt y 0⟩, ⟨13, [], .func (.func 43) #[] #[pt y 0, pt n 0]⟩, ⟨70, [], .slice ao1 u0.Signals.length cap2⟩, ⟨71, [], i6 (u0.Signals.length : Int)⟩, ⟨72, [], i6 0⟩] bK := d2.reg; clear d2
    obtain ⟨hA, hB, hC, hD⟩ := hk
    have kJ := D
    refine lp (ι := Int × (List (List UInt8 × Reading)) × (List Int) × Fz) (fun s => [⟨2, [], pt p 0⟩, ⟨4, [], pt q 0⟩, ⟨7, [], pt n 0⟩, ⟨8, [], pt y 0⟩, ⟨13, [], .func (.func 43) #[] #[pt y 0, pt n 0]⟩, ⟨70, [], .slice ao1 u0.Signals.length cap2⟩, ⟨71, [], i6 (u0.Signals.length : Int)⟩, ⟨72, [], i6 s.1⟩]) (fun s => [.row y [.map (some u)] 88, .map (fun x : List UInt8 => str x) (fun x : Reading => .agg (e30Md x).toArray) u s.2.1, .row q [i6 0, .bool false, .bool false, .bool false, i6 0, .slice none 0 0] 53, .row p (e51Md u0 ao1 cap2) 51, .own t8 5 (sm l) u0.Size.toNat s.2.2.1, .row n [i6 u0.ID, .bool u0.Long, .bool false, .bool false, i6 0, .slice (sm l) s.2.2.1.length u0.Size.toNat] 53]) (fun s => s.2.2.2) (fun s => hA s.1 s.2.1 s.2.2.1 ∧ Fz.le aP s.2.2.2) (fun s => hB s.1 s.2.1 s.2.2.1) ⟨0, F, aY, aP⟩ ⟨hC, Fz.le.refl _⟩ (by exact d3.reg) (by exact bJ) ?_
    rintro ⟨N, h, E, Q⟩ ⟨hF, aF⟩ hH hK d4 d5
    have d6 : Fr 102 [] [⟨2, [], pt p 0⟩, ⟨4, [], pt q 0⟩, ⟨7, [], pt n 0⟩, ⟨8, [], pt y 0⟩, ⟨13, [], .func (.func 43) #[] #[pt y 0, pt n 0]⟩, ⟨70, [], .slice ao1 u0.Signals.length cap2⟩, ⟨71, [], i6 (u0.Signals.length : Int)⟩, ⟨72, [], i6 N⟩] hH := d4; clear d4 d3
    have a3 : Mem w.heap.size [] w Z [.row y [.map (some u)] 88, .map (fun x : List UInt8 => str x) (fun x : Reading => .agg (e30Md x).toArray) u h, .row q [i6 0, .bool false, .bool false, .bool false, i6 0, .slice none 0 0] 53, .row p (e51Md u0 ao1 cap2) 51, .own t8 5 (sm l) u0.Size.toNat E, .row n [i6 u0.ID, .bool u0.Long, .bool false, .bool false, i6 0, .slice (sm l) E.length u0.Size.toNat] 53] Q hK := d5; clear d5 bJ
    have bM := hD N h E hF
    replace D := Fz.le.trans D aF
    have a4 := dG.mono aF
    have bN := dH.mono aF
    have bO := be.mono aF
    have bh := hz.mono aF
    refine sqB d6 a3 [] [] [(73, .bool (decide (N < (u0.Signals.length : Int))))] ?_; intro d7 bP; clear d6
    refine wp_seq ?_
    refine cd bP (t := decide (N < (u0.Signals.length : Int))) (by kernel_rfl) (fun cu => ?_) (fun cu => ?_)
    ·
     have hL := bM.1 cu; clear bM
     refine wp_skip ?_
     refine thn ?_
     have d8 : Fr 102 [] [⟨2, [], pt p 0⟩, ⟨4, [], pt q 0⟩, ⟨7, [], pt n 0⟩, ⟨8, [], pt y 0⟩, ⟨13, [], .func (.func 43) #[] #[pt y 0, pt n 0]⟩, ⟨70, [], .slice ao1 u0.Signals.length cap2⟩, ⟨71, [], i6 (u0.Signals.length : Int)⟩, ⟨72, [], i6 N⟩] d7 := bP.reg; clear bP
     have cv : Fr 102 [] [⟨2, [], pt p 0⟩, ⟨4, [], pt q 0⟩, ⟨7, [], pt n 0⟩, ⟨8, [], pt y 0⟩, ⟨13, [], .func (.func 43) #[] #[pt y 0, pt n 0]⟩, ⟨70, [], .slice ao1 u0.Signals.length cap2⟩, ⟨71, [], i6 (u0.Signals.length : Int)⟩, ⟨72, [], i6 N⟩] d7 := d8.reg; clear d8
     obtain ⟨hM, hN, hO⟩ := hL
     refine wp_seq_k fun KJ309 hKJ310 => ?_
     have cw : ∀ (bi : List (List UInt8 × Reading)) (a5 : List Int) (bQ : Fz), hM bi a5 ∧ Fz.le Q bQ → ∀ a1 L, Fr 102 [] [⟨2, [], pt p 0⟩, ⟨4, [], pt q 0⟩, ⟨7, [], pt n 0⟩, ⟨8, [], pt y 0⟩, ⟨13, [], .func (.func 43) #[] #[pt y 0, pt n 0]⟩, ⟨70, [], .slice ao1 u0.Signals.length cap2⟩, ⟨71, [], i6 (u0.Signals.length : Int)⟩, ⟨72, [], i6 N⟩] a1 → Mem w.heap.size [] w Z [.row y [.map (some u)] 88, .map (fun x : List UInt8 => str x) (fun x : Reading => .agg (e30Md x).toArray) u bi, .row q [i6 0, .bool false, .bool false, .bool false, i6 0, .slice none 0 0] 53, .row p (e51Md u0 ao1 cap2) 51, .own t8 5 (sm l) u0.Size.toNat a5, .row n [i6 u0.ID, .bool u0.Long, .bool false, .bool false, i6 0, .slice (sm l) a5.length u0.Size.toNat] 53] bQ L → KJ309 a1 L := by
      rintro bi a5 bQ ⟨hP, a6⟩ kK kL d9 ea; clear cv a3
      refine hKJ310 _ _ ?_; clear hKJ310
      have eb := hO bi a5 hP
      replace D := Fz.le.trans D a6
      have kM := a4.mono a6
      have kN := bN.mono a6
      have kO := bO.mono a6
      have kP := bh.mono a6
      have hQ := aF.mono a6
      refine rgB d9 ea [] [] [(72, i6 (w64 (N + 1)))] ?_; intro kQ hR; clear d9
      refine rd ?_
      exact ⟨⟨w64 (N + 1), bi, a5, bQ⟩, ⟨eb.1, hQ⟩, eb.2, (hR.reg).anyβ _ (by kernel_rfl), ea.keep (List.Sublist.cons_cons _ (List.Sublist.cons_cons _ (List.Sublist.cons_cons _ (List.Sublist.cons_cons _ (List.Sublist.cons_cons _ (List.Sublist.cons_cons _ (List.Sublist.slnil)))))))⟩
     have bj := Fz.le.refl Q
     refine wp_block ?_
     refine sqH ?_; intro hT ec
     refine s1 cv 74 (i6 N) ?_; intro kR ed; clear cv
     obtain ⟨hU, ee⟩ := hN
     refine ix ed (T := tySignal) (xs := u0.Signals) a4 N hU (k := .i64) (e := 23) (bytes := 72) (nog rfl _) rfl (by kernel_rfl) rfl (by kernel_rfl) (by kernel_rfl) (by kernel_rfl) ?_; intro hV hW hX f kS hY bR h1 ef; clear ed
     have bS := ee f hY; clear ee
     obtain rfl : hX = ((e23Md f) : List Value) := h1
     refine z2 ef a3 76 bR 0 9 (e23Md f) rfl ?_; intro kT eg; clear ef
     refine nw eg a3 pb [str [], i6 0, i6 0, .bool false, .bool false, i6 0, i6 0, i6 0, i6 0] 23 ?_; intro ak kU kV eh ei; clear eg a3
     refine s1 eh 15 (i6 N) ?_; intro kW cx; clear eh
     refine sx cx ei 0 (e23Md f) 0 ?_; intro h2 ej; clear ei
     have aR : Mem w.heap.size [] w Z [.row ak (e23Md f) 23, .row y [.map (some u)] 88, .map (fun x : List UInt8 => str x) (fun x : Reading => .agg (e30Md x).toArray) u h, .row q [i6 0, .bool false, .bool false, .bool false, i6 0, .slice none 0 0] 53, .row p (e51Md u0 ao1 cap2) 51, .own t8 5 (sm l) u0.Size.toNat E, .row n [i6 u0.ID, .bool u0.Long, .bool false, .bool false, i6 0, .slice (sm l) E.length u0.Size.toNat] 53] Q h2 := ej; clear ej
     refine nlH (ec _ _ ?_); clear ec hT
     refine wp_seq ?_
     refine sqH ?_; intro ek bT
     refine bt cx aR 5 [4] [] [(81, .bool (N == u0.Chooser))] ?_; intro kX bU; clear cx
     rcases Bool.eq_false_or_eq_true (N == u0.Chooser) with bk | bk
     ·
      have h3 := bS.1 bk; clear bS
      have el := bU.reval (d := 81) (c := []) (v := .bool (N == u0.Chooser)) (by kernel_rfl) (.bool true) (by rw [bk]); clear bU
      refine bt el aR 7 [] [82, 83, 84, 85, 86, 87, 88] [(88, .bool true)] ?_; intro kY em; clear el
      refine nlH (bT _ _ ?_); clear bT ek
      refine cdT em (by kernel_rfl) ?_
      refine wp_exit ?_
      refine thx ?_
      refine ibx ?_
      refine rd ?_
      exact cw h E Q ⟨h3, bj⟩ _ _ ((em.reg).anyβ _ (by kernel_rfl)) (aR.keep (List.Sublist.cons _ (List.Sublist.cons_cons _ (List.Sublist.cons_cons _ (List.Sublist.cons_cons _ (List.Sublist.cons_cons _ (List.Sublist.cons_cons _ (List.Sublist.cons_cons _ (List.Sublist.slnil)))))))))
     have h4 := bS.2 bk; clear bS
     have en := bU.reval (d := 81) (c := []) (v := .bool (N == u0.Chooser)) (by kernel_rfl) (.bool false) (by rw [bk]); clear bU
     refine bt en aR 4 [4, 0, 6] [82, 83, 84, 85] [(82, .agg (e51Md u0 ao1 cap2).toArray), (83, .agg (e23Md f).toArray), (85, .slice (sm l) E.length u0.Size.toNat)] ?_; intro kZ cy; clear en
     obtain ⟨h5, bV⟩ := h4
     refine fcl cy aR (.bool (mthereS u0 f E)) 41 #[.agg (e51Md u0 ao1 cap2).toArray, .agg (e23Md f).toArray, .slice (sm l) E.length u0.Size.toNat] (by rw [wanted_of cy (b := false) rfl rfl (by kernel_rfl) (by kernel_rfl)]; rfl) rfl (by kernel_rfl) (fun _ => by kernel_rfl) ((by obtain ⟨Z9, h6, h7, h8⟩ := aR.lend 5 rfl; exact mthere_fun u0 f E h5 ao1 cap2 (sm l) u0.Size.toNat _ _ (SlR.mono a4 h6) h8 h7)) ?_; intro k0 k1 eo bl; clear cy aR
     refine bt eo bl 2 [] [87, 88] [(88, .bool (!(mthereS u0 f E)))] ?_; intro k2 bW; clear eo
     refine nlH (bT _ _ ?_); clear bT ek
     refine cd bW (t := !(mthereS u0 f E)) (by kernel_rfl) (fun cz => ?_) (fun cz => ?_)
     ·
      have h9 := bV.1 cz; clear bV
      refine wp_exit ?_
      refine thx ?_
      refine ibx ?_
      refine rd ?_
      exact cw h E Q ⟨h9, bj⟩ _ _ ((bW.reg).anyβ _ (by kernel_rfl)) (bl.keep (List.Sublist.cons _ (List.Sublist.cons_cons _ (List.Sublist.cons_cons _ (List.Sublist.cons_cons _ (List.Sublist.cons_cons _ (List.Sublist.cons_cons _ (List.Sublist.cons_cons _ (List.Sublist.slnil)))))))))
     have bX := bV.2 cz; clear bV
     refine wp_skip ?_
     refine thn ?_
     refine sqH ?_; intro ep bY
     refine bt bW bl 2 [0] [] [(89, .func (.func 43) #[] #[pt y 0, pt n 0]), (90, .agg (e23Md f).toArray)] ?_; intro k3 cA; clear bW
     refine ck cA 43 #[.agg (e23Md f).toArray, pt y 0, pt n 0] ?_
     refine enter0 Try.func43 rfl rfl (by kernel_rfl) ?_; intro ia eq
     have er : Fr 38 [] [⟨0, [], .agg (e23Md f).toArray⟩, ⟨1, [], pt y 0⟩, ⟨2, [], pt n 0⟩] ia := eq.reg; clear eq
     refine sqH ?_; intro ib es
     refine nw er bl pb (e23Md f) 23 ?_; intro aa k4 k5 eu bm; clear er bl
     refine s1 eu 4 (i6 0) ?_; intro k6 ev; clear eu
     refine nlH (es _ _ ?_); clear es ib
     refine sqH ?_; intro ic ew
     refine bt ev bm 3 [2, 0] [] [(10, .map (some u)), (12, str f.Name)] ?_; intro k7 ex; clear ev
     refine lkO ex bm 3 (m := h) f.Name ((⟨[], 0, 0⟩ : Reading) : Reading) (t := 88) (kt := 9) (et := 30) (nog rfl _) rfl (by kernel_rfl) rfl (by kernel_rfl) (by kernel_rfl) rfl (MKey.str (by kernel_rfl)) (by kernel_rfl) (by kernel_rfl) ?_; intro k8 ey; clear ex
     refine bt ey bm 3 [] [] [(14, .agg (e30Md ((mget h f.Name).getD ((⟨[], 0, 0⟩ : Reading) : Reading))).toArray), (15, .bool (mget h f.Name).isSome)] ?_; intro k9 ez; clear ey
     refine nw ez bm pb [str [], i6 0, i6 0] 30 ?_; intro aG la lb cB eA; clear ez bm
     refine sx cB eA 0 (e30Md ((mget h f.Name).getD ((⟨[], 0, 0⟩ : Reading) : Reading))) 0 ?_; intro eB eC; clear eA
     refine s1 cB 6 (.bool (mget h f.Name).isSome) ?_; intro lc eD; clear cB
     have aS : Mem w.heap.size [] w Z [.row aG (e30Md ((mget h f.Name).getD ((⟨[], 0, 0⟩ : Reading) : Reading))) 30, .row aa (e23Md f) 23, .row ak (e23Md f) 23, .row y [.map (some u)] 88, .map (fun x : List UInt8 => str x) (fun x : Reading => .agg (e30Md x).toArray) u h, .row q [i6 0, .bool false, .bool false, .bool false, i6 0, .slice none 0 0] 53, .row p (e51Md u0 ao1 cap2) 51, .own t8 5 (sm l) u0.Size.toNat E, .row n [i6 u0.ID, .bool u0.Long, .bool false, .bool false, i6 0, .slice (sm l) E.length u0.Size.toNat] 53] Q eB := eC; clear eC
     refine nlH (ew _ _ ?_); clear ew ic
     refine wp_seq ?_
     refine sqB eD aS [] [] [(17, .bool (!(mget h f.Name).isSome))] ?_; intro ld bn; clear eD
     refine cd bn (t := !(mget h f.Name).isSome) (by kernel_rfl) (fun cC => ?_) (fun cC => ?_)
     ·
      have id := bX.1 cC; clear bX
      refine sqB bn aS [] [] [(4, i6 14)] ?_; intro lf eE; clear bn
      refine wp_ret ?_
      refine thr ?_
      refine ra1 eE (i6 14) ?_
      refine ⟨_, rfl, ?_⟩; intro lg eF; clear cA eE
      refine s1 eF 17 (i6 14) ?_; intro lh eG; clear eF
      have bZ : Mem w.heap.size [] w Z [.row aG (e30Md ((mget h f.Name).getD ((⟨[], 0, 0⟩ : Reading) : Reading))) 30, .row aa (e23Md f) 23, .row ak (e23Md f) 23, .row y [.map (some u)] 88, .map (fun x : List UInt8 => str x) (fun x : Reading => .agg (e30Md x).toArray) u h, .row q [i6 0, .bool false, .bool false, .bool false, i6 0, .slice none 0 0] 53, .row p (e51Md u0 ao1 cap2) 51, .own t8 5 (sm l) u0.Size.toNat E, .row n [i6 u0.ID, .bool u0.Long, .bool false, .bool false, i6 0, .slice (sm l) E.length u0.Size.toNat] 53] Q eB := aS; clear aS
      refine nlH (bY _ _ ?_); clear bY ep
      refine sqB eG bZ [] [] [(93, .bool true)] ?_; intro li cD; clear eG
      refine cdT cD (by kernel_rfl) ?_
      refine sqH ?_; intro ie eH
      refine bt cD bZ 2 [] [] [(94, .agg #[i6 0, .bool false, .bool false, .bool false, i6 0, .slice none 0 0]), (95, i6 14)] ?_; intro lj cE; clear cD
      refine sx cE bZ 5 [i6 0, .bool false, .bool false, .bool false, i6 0, .slice none 0 0] 0 ?_; intro ig eI; clear bZ
      refine s1 cE 5 (i6 14) ?_; intro lk eJ; clear cE
      have eK : Mem w.heap.size [] w Z [.row aG (e30Md ((mget h f.Name).getD ((⟨[], 0, 0⟩ : Reading) : Reading))) 30, .row aa (e23Md f) 23, .row ak (e23Md f) 23, .row y [.map (some u)] 88, .map (fun x : List UInt8 => str x) (fun x : Reading => .agg (e30Md x).toArray) u h, .row q [i6 0, .bool false, .bool false, .bool false, i6 0, .slice none 0 0] 53, .row p (e51Md u0 ao1 cap2) 51, .own t8 5 (sm l) u0.Size.toNat E, .row n [i6 u0.ID, .bool u0.Long, .bool false, .bool false, i6 0, .slice (sm l) E.length u0.Size.toNat] 53] Q ig := eI; clear eI
      refine nlH (eH _ _ ?_); clear eH ie
      refine wp_ret ?_
      refine ibr ?_
      refine thr ?_
      refine thr ?_
      refine ibr ?_
      refine thr ?_
      refine rt (fn := Try.f18) (v := .tuple #[.agg #[i6 0, .bool false, .bool false, .bool false, i6 0, .slice none 0 0], i6 14]) eJ (re2c eJ (fn := Try.f18) rfl (ad := ⟨q, 0, none⟩) (by kernel_rfl) (loadVar_run eK 5 (b := q) (k := 6) (vs := [i6 0, .bool false, .bool false, .bool false, i6 0, .slice none 0 0]) (ty := 53) rfl (by kernel_rfl) (by kernel_rfl)) (by kernel_rfl)) ?_
      exact ⟨((⟨0, false, false, false, 0, []⟩ : Frame), 14), none, 0, Q, rfl, id, (SlR.nil _ _), eK.keep (List.Sublist.cons _ (List.Sublist.cons _ (List.Sublist.cons _ (List.Sublist.cons _ (List.Sublist.cons _ (List.Sublist.cons _ (List.Sublist.cons _ (List.Sublist.cons _ (List.Sublist.cons _ (List.Sublist.slnil))))))))))⟩
     have ih := bX.2 cC; clear bX
     refine wp_skip ?_
     refine thn ?_
     refine sqH ?_; intro ii eL
     refine bt bn aS 3 [3, 1] [] [(18, .map (some u)), (20, str f.Name)] ?_; intro ll cF; clear bn
     refine mdl cF aS 4 (m := h) f.Name (t := 88) (kt := 9) (et := 30) (nog rfl _) rfl rfl (by kernel_rfl) (by kernel_rfl) rfl (MKey.str (by kernel_rfl)) (by kernel_rfl) ?_; intro ij eM; clear aS
     have b0 : Mem w.heap.size [] w Z [.row aG (e30Md ((mget h f.Name).getD ((⟨[], 0, 0⟩ : Reading) : Reading))) 30, .row aa (e23Md f) 23, .row ak (e23Md f) 23, .row y [.map (some u)] 88, .map (fun x : List UInt8 => str x) (fun x : Reading => .agg (e30Md x).toArray) u (mdel h f.Name), .row q [i6 0, .bool false, .bool false, .bool false, i6 0, .slice none 0 0] 53, .row p (e51Md u0 ao1 cap2) 51, .own t8 5 (sm l) u0.Size.toNat E, .row n [i6 u0.ID, .bool u0.Long, .bool false, .bool false, i6 0, .slice (sm l) E.length u0.Size.toNat] 53] Q ij := eM; clear eM
     refine nlH (eL _ _ ?_); clear eL ii
     refine sqH ?_; intro ik eN
     refine bt cF b0 5 [1, 0, 0] [] [(22, .agg (e23Md f).toArray), (24, i6 ((mget h f.Name).getD ((⟨[], 0, 0⟩ : Reading) : Reading)).Num), (26, i6 ((mget h f.Name).getD ((⟨[], 0, 0⟩ : Reading) : Reading)).Den)] ?_; intro lm eO; clear cF
     refine fc eO b0 (sraw_fun f ((mget h f.Name).getD ((⟨[], 0, 0⟩ : Reading) : Reading)).Num ((mget h f.Name).getD ((⟨[], 0, 0⟩ : Reading) : Reading)).Den _ _ b0.fz) ?_; intro ln lo eP aM; clear eO b0
     refine bt eP aM 5 [] [] [(7, i6 (rawS f ((mget h f.Name).getD ((⟨[], 0, 0⟩ : Reading) : Reading)).Num ((mget h f.Name).getD ((⟨[], 0, 0⟩ : Reading) : Reading)).Den).1), (8, i6 (rawS f ((mget h f.Name).getD ((⟨[], 0, 0⟩ : Reading) : Reading)).Num ((mget h f.Name).getD ((⟨[], 0, 0⟩ : Reading) : Reading)).Den).2)] ?_; intro lq eQ; clear eP
     refine nlH (eN _ _ ?_); clear eN ik
     refine wp_seq ?_
     refine sqB eQ aM [] [] [(31, .bool ((rawS f ((mget h f.Name).getD ((⟨[], 0, 0⟩ : Reading) : Reading)).Num ((mget h f.Name).getD ((⟨[], 0, 0⟩ : Reading) : Reading)).Den).2 == 0))] ?_; intro eR eS; clear eQ
     have eT : Fr 38 [] [⟨2, [], pt n 0⟩, ⟨3, [], pt aa 0⟩, ⟨7, [], i6 (rawS f ((mget h f.Name).getD ((⟨[], 0, 0⟩ : Reading) : Reading)).Num ((mget h f.Name).getD ((⟨[], 0, 0⟩ : Reading) : Reading)).Den).1⟩, ⟨8, [], i6 (rawS f ((mget h f.Name).getD ((⟨[], 0, 0⟩ : Reading) : Reading)).Num ((mget h f.Name).getD ((⟨[], 0, 0⟩ : Reading) : Reading)).Den).2⟩, ⟨31, [], .bool ((rawS f ((mget h f.Name).getD ((⟨[], 0, 0⟩ : Reading) : Reading)).Num ((mget h f.Name).getD ((⟨[], 0, 0⟩ : Reading) : Reading)).Den).2 == 0)⟩] eR := eS.reg; clear eS
     have bo : Fr 38 [] [⟨2, [], pt n 0⟩, ⟨3, [], pt aa 0⟩, ⟨7, [], i6 (rawS f ((mget h f.Name).getD ((⟨[], 0, 0⟩ : Reading) : Reading)).Num ((mget h f.Name).getD ((⟨[], 0, 0⟩ : Reading) : Reading)).Den).1⟩, ⟨8, [], i6 (rawS f ((mget h f.Name).getD ((⟨[], 0, 0⟩ : Reading) : Reading)).Num ((mget h f.Name).getD ((⟨[], 0, 0⟩ : Reading) : Reading)).Den).2⟩, ⟨31, [], .bool ((rawS f ((mget h f.Name).getD ((⟨[], 0, 0⟩ : Reading) : Reading)).Num ((mget h f.Name).getD ((⟨[], 0, 0⟩ : Reading) : Reading)).Den).2 == 0)⟩] eR := eT.reg; clear eT
     obtain ⟨il, b1, im⟩ := ih
     refine wp_then_k fun KJ526 hKJ527 => ?_
     have eU : ∀ (U : List Int) (aT : Fz), il U ∧ U.length = E.length ∧ Fz.le Q aT → ∀ a1 L, Fr 38 [] [⟨8, [], i6 (rawS f ((mget h f.Name).getD ((⟨[], 0, 0⟩ : Reading) : Reading)).Num ((mget h f.Name).getD ((⟨[], 0, 0⟩ : Reading) : Reading)).Den).2⟩] a1 → Mem w.heap.size [] w Z [.row aG (e30Md ((mget h f.Name).getD ((⟨[], 0, 0⟩ : Reading) : Reading))) 30, .row aa (e23Md f) 23, .row ak (e23Md f) 23, .row y [.map (some u)] 88, .map (fun x : List UInt8 => str x) (fun x : Reading => .agg (e30Md x).toArray) u (mdel h f.Name), .row q [i6 0, .bool false, .bool false, .bool false, i6 0, .slice none 0 0] 53, .row p (e51Md u0 ao1 cap2) 51, .own t8 5 (sm l) u0.Size.toNat U, .row n [i6 u0.ID, .bool u0.Long, .bool false, .bool false, i6 0, .slice (sm l) U.length u0.Size.toNat] 53] aT L → KJ526 a1 L := by
      rintro U aT ⟨io, lr, aN⟩ ls ip eV cG; clear bo aM
      refine hKJ527 _ _ ?_; clear hKJ527
      have b2 := im U io
      replace D := Fz.le.trans D aN
      have lt := a4.mono aN
      have lu := bN.mono aN
      have lv := bO.mono aN
      have lw := bh.mono aN
      have lx := aF.mono aN
      have iq := bj.mono aN
      have ly := bR.mono aN
      refine sqB eV cG [] [] [(4, i6 (rawS f ((mget h f.Name).getD ((⟨[], 0, 0⟩ : Reading) : Reading)).Num ((mget h f.Name).getD ((⟨[], 0, 0⟩ : Reading) : Reading)).Den).2)] ?_; intro lz eW; clear eV
      refine wp_ret ?_
      refine ra1 eW (i6 (rawS f ((mget h f.Name).getD ((⟨[], 0, 0⟩ : Reading) : Reading)).Num ((mget h f.Name).getD ((⟨[], 0, 0⟩ : Reading) : Reading)).Den).2) ?_
      refine ⟨_, rfl, ?_⟩; intro ir eX; clear cA eW
      have it : U.length = E.length := by first | assumption | omega | (simp; try omega)
      have eY : Fr 102 [] [⟨2, [], pt p 0⟩, ⟨4, [], pt q 0⟩, ⟨7, [], pt n 0⟩, ⟨8, [], pt y 0⟩, ⟨13, [], .func (.func 43) #[] #[pt y 0, pt n 0]⟩, ⟨15, [], i6 N⟩, ⟨16, [], pt ak 0⟩, ⟨70, [], .slice ao1 u0.Signals.length cap2⟩, ⟨71, [], i6 (u0.Signals.length : Int)⟩, ⟨72, [], i6 N⟩, ⟨74, [], i6 N⟩, ⟨75, [], pt hV hW⟩, ⟨76, [], .agg (e23Md f).toArray⟩, ⟨81, [], .bool false⟩, ⟨82, [], .agg (e51Md u0 ao1 cap2).toArray⟩, ⟨83, [], .agg (e23Md f).toArray⟩, ⟨85, [], .slice (sm l) U.length u0.Size.toNat⟩, ⟨86, [], .bool (mthereS u0 f E)⟩, ⟨88, [], .bool (!(mthereS u0 f E))⟩, ⟨89, [], .func (.func 43) #[] #[pt y 0, pt n 0]⟩, ⟨90, [], .agg (e23Md f).toArray⟩, ⟨91, [], i6 (rawS f ((mget h f.Name).getD ((⟨[], 0, 0⟩ : Reading) : Reading)).Num ((mget h f.Name).getD ((⟨[], 0, 0⟩ : Reading) : Reading)).Den).2⟩] ir := by rw [it]; exact eX.reg
      clear eX
      refine s1 eY 17 (i6 (rawS f ((mget h f.Name).getD ((⟨[], 0, 0⟩ : Reading) : Reading)).Num ((mget h f.Name).getD ((⟨[], 0, 0⟩ : Reading) : Reading)).Den).2) ?_; intro lA eZ; clear eY
      have bp : Mem w.heap.size [] w Z [.row aG (e30Md ((mget h f.Name).getD ((⟨[], 0, 0⟩ : Reading) : Reading))) 30, .row aa (e23Md f) 23, .row ak (e23Md f) 23, .row y [.map (some u)] 88, .map (fun x : List UInt8 => str x) (fun x : Reading => .agg (e30Md x).toArray) u (mdel h f.Name), .row q [i6 0, .bool false, .bool false, .bool false, i6 0, .slice none 0 0] 53, .row p (e51Md u0 ao1 cap2) 51, .own t8 5 (sm l) u0.Size.toNat U, .row n [i6 u0.ID, .bool u0.Long, .bool false, .bool false, i6 0, .slice (sm l) U.length u0.Size.toNat] 53] aT ip := cG; clear cG
      refine nlH (bY _ _ ?_); clear bY ep
      refine sqB eZ bp [] [] [(93, .bool ((rawS f ((mget h f.Name).getD ((⟨[], 0, 0⟩ : Reading) : Reading)).Num ((mget h f.Name).getD ((⟨[], 0, 0⟩ : Reading) : Reading)).Den).2 != 0))] ?_; intro lB b3; clear eZ
      refine cd b3 (t := (rawS f ((mget h f.Name).getD ((⟨[], 0, 0⟩ : Reading) : Reading)).Num ((mget h f.Name).getD ((⟨[], 0, 0⟩ : Reading) : Reading)).Den).2 != 0) (by kernel_rfl) (fun cH => ?_) (fun cH => ?_)
      ·
       have iu := b2.1 cH; clear b2
       refine sqH ?_; intro iv e0
       refine bt b3 bp 2 [] [] [(94, .agg #[i6 0, .bool false, .bool false, .bool false, i6 0, .slice none 0 0]), (95, i6 (rawS f ((mget h f.Name).getD ((⟨[], 0, 0⟩ : Reading) : Reading)).Num ((mget h f.Name).getD ((⟨[], 0, 0⟩ : Reading) : Reading)).Den).2)] ?_; intro lC cI; clear b3
       refine sx cI bp 5 [i6 0, .bool false, .bool false, .bool false, i6 0, .slice none 0 0] 0 ?_; intro iw e1; clear bp
       refine s1 cI 5 (i6 (rawS f ((mget h f.Name).getD ((⟨[], 0, 0⟩ : Reading) : Reading)).Num ((mget h f.Name).getD ((⟨[], 0, 0⟩ : Reading) : Reading)).Den).2) ?_; intro lD e2; clear cI
       have e3 : Mem w.heap.size [] w Z [.row aG (e30Md ((mget h f.Name).getD ((⟨[], 0, 0⟩ : Reading) : Reading))) 30, .row aa (e23Md f) 23, .row ak (e23Md f) 23, .row y [.map (some u)] 88, .map (fun x : List UInt8 => str x) (fun x : Reading => .agg (e30Md x).toArray) u (mdel h f.Name), .row q [i6 0, .bool false, .bool false, .bool false, i6 0, .slice none 0 0] 53, .row p (e51Md u0 ao1 cap2) 51, .own t8 5 (sm l) u0.Size.toNat U, .row n [i6 u0.ID, .bool u0.Long, .bool false, .bool false, i6 0, .slice (sm l) U.length u0.Size.toNat] 53] aT iw := e1; clear e1
       refine nlH (e0 _ _ ?_); clear e0 iv
       refine wp_ret ?_
       refine ibr ?_
       refine thr ?_
       refine thr ?_
       refine ibr ?_
       refine thr ?_
       refine rt (fn := Try.f18) (v := .tuple #[.agg #[i6 0, .bool false, .bool false, .bool false, i6 0, .slice none 0 0], i6 (rawS f ((mget h f.Name).getD ((⟨[], 0, 0⟩ : Reading) : Reading)).Num ((mget h f.Name).getD ((⟨[], 0, 0⟩ : Reading) : Reading)).Den).2]) e2 (re2c e2 (fn := Try.f18) rfl (ad := ⟨q, 0, none⟩) (by kernel_rfl) (loadVar_run e3 5 (b := q) (k := 6) (vs := [i6 0, .bool false, .bool false, .bool false, i6 0, .slice none 0 0]) (ty := 53) rfl (by kernel_rfl) (by kernel_rfl)) (by kernel_rfl)) ?_
       exact ⟨((⟨0, false, false, false, 0, []⟩ : Frame), (rawS f ((mget h f.Name).getD ((⟨[], 0, 0⟩ : Reading) : Reading)).Num ((mget h f.Name).getD ((⟨[], 0, 0⟩ : Reading) : Reading)).Den).2), none, 0, aT, rfl, iu, (SlR.nil _ _), e3.keep (List.Sublist.cons _ (List.Sublist.cons _ (List.Sublist.cons _ (List.Sublist.cons _ (List.Sublist.cons _ (List.Sublist.cons _ (List.Sublist.cons _ (List.Sublist.cons _ (List.Sublist.cons _ (List.Sublist.slnil))))))))))⟩
      have iy := b2.2 cH; clear b2
      refine wp_skip ?_
      refine ibn ?_
      refine rd ?_
      exact cw (mdel h f.Name) U aT ⟨iy, iq⟩ _ _ ((b3.reg).anyβ _ (by kernel_rfl)) (bp.keep (List.Sublist.cons _ (List.Sublist.cons _ (List.Sublist.cons _ (List.Sublist.cons_cons _ (List.Sublist.cons_cons _ (List.Sublist.cons_cons _ (List.Sublist.cons_cons _ (List.Sublist.cons_cons _ (List.Sublist.cons_cons _ (List.Sublist.slnil)))))))))))
     have b4 := Fz.le.refl Q
     refine cd bo (t := (rawS f ((mget h f.Name).getD ((⟨[], 0, 0⟩ : Reading) : Reading)).Num ((mget h f.Name).getD ((⟨[], 0, 0⟩ : Reading) : Reading)).Den).2 == 0) (by kernel_rfl) (fun cJ => ?_) (fun cJ => ?_)
     ·
      have iz := b1.1 cJ; clear b1
      refine rgH ?_; intro iA e4
      refine bt bo aM 4 [1, 8] [] [(32, .agg (e23Md f).toArray), (34, .slice (sm l) E.length u0.Size.toNat), (35, i6 (rawS f ((mget h f.Name).getD ((⟨[], 0, 0⟩ : Reading) : Reading)).Num ((mget h f.Name).getD ((⟨[], 0, 0⟩ : Reading) : Reading)).Den).1)] ?_; intro lE e5; clear bo
      obtain ⟨iB, e6⟩ := iz
      refine ck e5 26 #[.agg (e23Md f).toArray, .slice (sm l) E.length u0.Size.toNat, i6 (rawS f ((mget h f.Name).getD ((⟨[], 0, 0⟩ : Reading) : Reading)).Num ((mget h f.Name).getD ((⟨[], 0, 0⟩ : Reading) : Reading)).Den).1] ?_
      refine (sputd_fun f E (rawS f ((mget h f.Name).getD ((⟨[], 0, 0⟩ : Reading) : Reading)).Num ((mget h f.Name).getD ((⟨[], 0, 0⟩ : Reading) : Reading)).Den).1 iB (sm l) u0.Size.toNat _ _ _ _ _ _ (aM.perm (pk 7 rfl)) aM.fz).mono ?_; rintro _ e7 ⟨cK, rfl, aH, iC, hm⟩; refine ⟨_, rfl, ?_⟩; intro iD e8; have e9 := hm; clear hm aM e5
      replace a4 := a4.mono aH
      replace bN := bN.mono aH
      replace bO := bO.mono aH
      replace bh := bh.mono aH
      replace aF := aF.mono aH
      replace bj := bj.mono aH
      replace bR := bR.mono aH
      replace b4 := b4.mono aH
      replace D := Fz.le.trans D aH
      have iE : Fr 38 [] [⟨2, [], pt n 0⟩, ⟨3, [], pt aa 0⟩, ⟨7, [], i6 (rawS f ((mget h f.Name).getD ((⟨[], 0, 0⟩ : Reading) : Reading)).Num ((mget h f.Name).getD ((⟨[], 0, 0⟩ : Reading) : Reading)).Den).1⟩, ⟨8, [], i6 (rawS f ((mget h f.Name).getD ((⟨[], 0, 0⟩ : Reading) : Reading)).Num ((mget h f.Name).getD ((⟨[], 0, 0⟩ : Reading) : Reading)).Den).2⟩, ⟨31, [], .bool ((rawS f ((mget h f.Name).getD ((⟨[], 0, 0⟩ : Reading) : Reading)).Num ((mget h f.Name).getD ((⟨[], 0, 0⟩ : Reading) : Reading)).Den).2 == 0)⟩, ⟨32, [], .agg (e23Md f).toArray⟩, ⟨34, [], .slice (sm l) (putS f E (rawS f ((mget h f.Name).getD ((⟨[], 0, 0⟩ : Reading) : Reading)).Num ((mget h f.Name).getD ((⟨[], 0, 0⟩ : Reading) : Reading)).Den).1).length u0.Size.toNat⟩, ⟨35, [], i6 (rawS f ((mget h f.Name).getD ((⟨[], 0, 0⟩ : Reading) : Reading)).Num ((mget h f.Name).getD ((⟨[], 0, 0⟩ : Reading) : Reading)).Den).1⟩, ⟨36, [], .tuple #[]⟩] iD := by rw [iC]; exact e8.reg
      clear e8
      have iF : (putS f E (rawS f ((mget h f.Name).getD ((⟨[], 0, 0⟩ : Reading) : Reading)).Num ((mget h f.Name).getD ((⟨[], 0, 0⟩ : Reading) : Reading)).Den).1).length = E.length := by first | assumption | (simp; try omega)
      have fa : Mem w.heap.size [] w Z [.own t8 5 (sm l) u0.Size.toNat (putS f E (rawS f ((mget h f.Name).getD ((⟨[], 0, 0⟩ : Reading) : Reading)).Num ((mget h f.Name).getD ((⟨[], 0, 0⟩ : Reading) : Reading)).Den).1), .row aG (e30Md ((mget h f.Name).getD ((⟨[], 0, 0⟩ : Reading) : Reading))) 30, .row aa (e23Md f) 23, .row ak (e23Md f) 23, .row y [.map (some u)] 88, .map (fun x : List UInt8 => str x) (fun x : Reading => .agg (e30Md x).toArray) u (mdel h f.Name), .row q [i6 0, .bool false, .bool false, .bool false, i6 0, .slice none 0 0] 53, .row p (e51Md u0 ao1 cap2) 51, .row n [i6 u0.ID, .bool u0.Long, .bool false, .bool false, i6 0, .slice (sm l) (putS f E (rawS f ((mget h f.Name).getD ((⟨[], 0, 0⟩ : Reading) : Reading)).Num ((mget h f.Name).getD ((⟨[], 0, 0⟩ : Reading) : Reading)).Den).1).length u0.Size.toNat] 53] cK e7 := by rw [iF]; exact e9
      clear e9
      have fb : Mem w.heap.size [] w Z [.own t8 5 (sm l) u0.Size.toNat (putS f E (rawS f ((mget h f.Name).getD ((⟨[], 0, 0⟩ : Reading) : Reading)).Num ((mget h f.Name).getD ((⟨[], 0, 0⟩ : Reading) : Reading)).Den).1), .row aG (e30Md ((mget h f.Name).getD ((⟨[], 0, 0⟩ : Reading) : Reading))) 30, .row aa (e23Md f) 23, .row ak (e23Md f) 23, .row y [.map (some u)] 88, .map (fun x : List UInt8 => str x) (fun x : Reading => .agg (e30Md x).toArray) u (mdel h f.Name), .row q [i6 0, .bool false, .bool false, .bool false, i6 0, .slice none 0 0] 53, .row p (e51Md u0 ao1 cap2) 51, .row n [i6 u0.ID, .bool u0.Long, .bool false, .bool false, i6 0, .slice (sm l) (putS f E (rawS f ((mget h f.Name).getD ((⟨[], 0, 0⟩ : Reading) : Reading)).Num ((mget h f.Name).getD ((⟨[], 0, 0⟩ : Reading) : Reading)).Den).1).length u0.Size.toNat] 53] cK e7 := fa; clear fa
      have iG := e6 (fb.ownSmall 0 rfl); clear e6
      refine nlH (e4 _ _ ?_); clear e4 iA
      refine rd ?_
      have iH := fb.perm ((pk 1 rfl).trans (((pk 1 rfl).trans (((pk 1 rfl).trans (((pk 1 rfl).trans (((pk 1 rfl).trans (((pk 1 rfl).trans (((pk 1 rfl).trans (lpr.cons _)).cons _)).cons _)).cons _)).cons _)).cons _)).cons _))
      exact eU (putS f E (rawS f ((mget h f.Name).getD ((⟨[], 0, 0⟩ : Reading) : Reading)).Num ((mget h f.Name).getD ((⟨[], 0, 0⟩ : Reading) : Reading)).Den).1) cK ⟨iG, (by first | rfl | assumption | omega | (simp; try omega)), b4⟩ _ _ ((iE.reg).anyβ _ (by kernel_rfl)) (iH.keep (List.Sublist.cons_cons _ (List.Sublist.cons_cons _ (List.Sublist.cons_cons _ (List.Sublist.cons_cons _ (List.Sublist.cons_cons _ (List.Sublist.cons_cons _ (List.Sublist.cons_cons _ (List.Sublist.cons_cons _ (List.Sublist.cons_cons _ (List.Sublist.slnil)))))))))))
     have iI := b1.2 cJ; clear b1
     refine wp_skip ?_
     refine rd ?_
     exact eU E Q ⟨iI, (by first | rfl | assumption | omega | (simp; try omega)), b4⟩ _ _ ((bo.reg).anyβ _ (by kernel_rfl)) (aM.keep (List.Sublist.cons_cons _ (List.Sublist.cons_cons _ (List.Sublist.cons_cons _ (List.Sublist.cons_cons _ (List.Sublist.cons_cons _ (List.Sublist.cons_cons _ (List.Sublist.cons_cons _ (List.Sublist.cons_cons _ (List.Sublist.cons_cons _ (List.Sublist.slnil)))))))))))
    have iJ := bM.2 cu; clear bM
    refine wp_exit ?_
    refine thx ?_
    refine thx ?_
    refine ibx ?_
    refine rd ?_
    exact hn h E Q ⟨iJ, bh⟩ _ _ ((bP.reg).anyβ _ (by kernel_rfl)) (a3.keep (List.Sublist.cons_cons _ (List.Sublist.cons_cons _ (List.Sublist.cons_cons _ (List.Sublist.cons_cons _ (List.Sublist.cons_cons _ (List.Sublist.cons_cons _ (List.Sublist.slnil))))))))
   have b5 := Fz.le.refl Z
   refine cd bd (t := decide (u0.Chooser ≥ 0)) (by kernel_rfl) (fun cL => ?_) (fun cL => ?_)
   ·
    have iK := bI.1 cL; clear bI
    refine sqH ?_; intro fd b6
    refine bt bd aL 5 [3, 3] [] [(57, .func (.func 43) #[] #[pt y 0, pt n 0]), (59, .slice ao1 u0.Signals.length cap2), (61, i6 u0.Chooser)] ?_; intro lF fe; clear bd
    obtain ⟨iL, fg⟩ := iK
    refine ix fe (T := tySignal) (xs := u0.Signals) bb u0.Chooser iL (k := .i64) (e := 23) (bytes := 72) (nog rfl _) rfl (by kernel_rfl) rfl (by kernel_rfl) (by kernel_rfl) (by kernel_rfl) ?_; intro lG lH iM g lI iN b7 iO fh; clear fe
    have b8 := fg g iN; clear fg
    obtain rfl : iM = ((e23Md g) : List Value) := iO
    refine z2 fh aL 63 b7 0 9 (e23Md g) rfl ?_; intro lJ cM; clear fh
    refine ck cM 43 #[.agg (e23Md g).toArray, pt y 0, pt n 0] ?_
    refine enter0 Try.func43 rfl rfl (by kernel_rfl) ?_; intro iP fi
    have fj : Fr 38 [] [⟨0, [], .agg (e23Md g).toArray⟩, ⟨1, [], pt y 0⟩, ⟨2, [], pt n 0⟩] iP := fi.reg; clear fi
    refine sqH ?_; intro iQ fk
    refine nw fj aL pb (e23Md g) 23 ?_; intro ab lK lL fl bq; clear fj aL
    refine s1 fl 4 (i6 0) ?_; intro lM fm; clear fl
    refine nlH (fk _ _ ?_); clear fk iQ
    refine sqH ?_; intro iR fo
    refine bt fm bq 3 [1, 0] [] [(10, .map (some u)), (12, str g.Name)] ?_; intro lN fp; clear fm
    refine lkO fp bq 2 (m := j) g.Name ((⟨[], 0, 0⟩ : Reading) : Reading) (t := 88) (kt := 9) (et := 30) (nog rfl _) rfl (by kernel_rfl) rfl (by kernel_rfl) (by kernel_rfl) rfl (MKey.str (by kernel_rfl)) (by kernel_rfl) (by kernel_rfl) ?_; intro lO fq; clear fp
    refine bt fq bq 3 [] [] [(14, .agg (e30Md ((mget j g.Name).getD ((⟨[], 0, 0⟩ : Reading) : Reading))).toArray), (15, .bool (mget j g.Name).isSome)] ?_; intro lP fr; clear fq
    refine nw fr bq pb [str [], i6 0, i6 0] 30 ?_; intro aI lQ lR cN fs; clear fr bq
    refine sx cN fs 0 (e30Md ((mget j g.Name).getD ((⟨[], 0, 0⟩ : Reading) : Reading))) 0 ?_; intro ft fu; clear fs
    refine s1 cN 6 (.bool (mget j g.Name).isSome) ?_; intro lS fv; clear cN
    have aU : Mem w.heap.size [] w Z [.row aI (e30Md ((mget j g.Name).getD ((⟨[], 0, 0⟩ : Reading) : Reading))) 30, .row ab (e23Md g) 23, .row y [.map (some u)] 88, .map (fun x : List UInt8 => str x) (fun x : Reading => .agg (e30Md x).toArray) u j, .row q [i6 0, .bool false, .bool false, .bool false, i6 0, .slice none 0 0] 53, .row p (e51Md u0 ao1 cap2) 51, .own t8 5 (sm l) u0.Size.toNat (List.replicate u0.Size.toNat (0 : Int)), .row n [i6 u0.ID, .bool u0.Long, .bool false, .bool false, i6 0, .slice (sm l) (List.replicate u0.Size.toNat (0 : Int)).length u0.Size.toNat] 53] Z ft := fu; clear fu
    refine nlH (fo _ _ ?_); clear fo iR
    refine wp_seq ?_
    refine sqB fv aU [] [] [(17, .bool (!(mget j g.Name).isSome))] ?_; intro lT br; clear fv
    refine cd br (t := !(mget j g.Name).isSome) (by kernel_rfl) (fun cO => ?_) (fun cO => ?_)
    ·
     have iS := b8.1 cO; clear b8
     refine sqB br aU [] [] [(4, i6 14)] ?_; intro lU fw; clear br
     refine wp_ret ?_
     refine thr ?_
     refine ra1 fw (i6 14) ?_
     refine ⟨_, rfl, ?_⟩; intro lV fx; clear cM fw
     refine s1 fx 14 (i6 14) ?_; intro lW fy; clear fx
     have b9 : Mem w.heap.size [] w Z [.row aI (e30Md ((mget j g.Name).getD ((⟨[], 0, 0⟩ : Reading) : Reading))) 30, .row ab (e23Md g) 23, .row y [.map (some u)] 88, .map (fun x : List UInt8 => str x) (fun x : Reading => .agg (e30Md x).toArray) u j, .row q [i6 0, .bool false, .bool false, .bool false, i6 0, .slice none 0 0] 53, .row p (e51Md u0 ao1 cap2) 51, .own t8 5 (sm l) u0.Size.toNat (List.replicate u0.Size.toNat (0 : Int)), .row n [i6 u0.ID, .bool u0.Long, .bool false, .bool false, i6 0, .slice (sm l) (List.replicate u0.Size.toNat (0 : Int)).length u0.Size.toNat] 53] Z ft := aU; clear aU
     refine nlH (b6 _ _ ?_); clear b6 fd
     refine sqB fy b9 [] [] [(66, .bool true)] ?_; intro lX cP; clear fy
     refine cdT cP (by kernel_rfl) ?_
     refine sqH ?_; intro iT fA
     refine bt cP b9 2 [] [] [(67, .agg #[i6 0, .bool false, .bool false, .bool false, i6 0, .slice none 0 0]), (68, i6 14)] ?_; intro lY cQ; clear cP
     refine sx cQ b9 4 [i6 0, .bool false, .bool false, .bool false, i6 0, .slice none 0 0] 0 ?_; intro iU fB; clear b9
     refine s1 cQ 5 (i6 14) ?_; intro lZ fC; clear cQ
     have fD : Mem w.heap.size [] w Z [.row aI (e30Md ((mget j g.Name).getD ((⟨[], 0, 0⟩ : Reading) : Reading))) 30, .row ab (e23Md g) 23, .row y [.map (some u)] 88, .map (fun x : List UInt8 => str x) (fun x : Reading => .agg (e30Md x).toArray) u j, .row q [i6 0, .bool false, .bool false, .bool false, i6 0, .slice none 0 0] 53, .row p (e51Md u0 ao1 cap2) 51, .own t8 5 (sm l) u0.Size.toNat (List.replicate u0.Size.toNat (0 : Int)), .row n [i6 u0.ID, .bool u0.Long, .bool false, .bool false, i6 0, .slice (sm l) (List.replicate u0.Size.toNat (0 : Int)).length u0.Size.toNat] 53] Z iU := fB; clear fB
     refine nlH (fA _ _ ?_); clear fA iT
     refine wp_ret ?_
     refine thr ?_
     refine rt (fn := Try.f18) (v := .tuple #[.agg #[i6 0, .bool false, .bool false, .bool false, i6 0, .slice none 0 0], i6 14]) fC (re2c fC (fn := Try.f18) rfl (ad := ⟨q, 0, none⟩) (by kernel_rfl) (loadVar_run fD 4 (b := q) (k := 6) (vs := [i6 0, .bool false, .bool false, .bool false, i6 0, .slice none 0 0]) (ty := 53) rfl (by kernel_rfl) (by kernel_rfl)) (by kernel_rfl)) ?_
     exact ⟨((⟨0, false, false, false, 0, []⟩ : Frame), 14), none, 0, Z, rfl, iS, (SlR.nil _ _), fD.keep (List.Sublist.cons _ (List.Sublist.cons _ (List.Sublist.cons _ (List.Sublist.cons _ (List.Sublist.cons _ (List.Sublist.cons _ (List.Sublist.cons _ (List.Sublist.cons _ (List.Sublist.slnil)))))))))⟩
    have iV := b8.2 cO; clear b8
    refine wp_skip ?_
    refine thn ?_
    refine sqH ?_; intro iW fE
    refine bt br aU 3 [2, 1] [] [(18, .map (some u)), (20, str g.Name)] ?_; intro l0 cR; clear br
    refine mdl cR aU 3 (m := j) g.Name (t := 88) (kt := 9) (et := 30) (nog rfl _) rfl rfl (by kernel_rfl) (by kernel_rfl) rfl (MKey.str (by kernel_rfl)) (by kernel_rfl) ?_; intro iX fF; clear aU
    have ca : Mem w.heap.size [] w Z [.row aI (e30Md ((mget j g.Name).getD ((⟨[], 0, 0⟩ : Reading) : Reading))) 30, .row ab (e23Md g) 23, .row y [.map (some u)] 88, .map (fun x : List UInt8 => str x) (fun x : Reading => .agg (e30Md x).toArray) u (mdel j g.Name), .row q [i6 0, .bool false, .bool false, .bool false, i6 0, .slice none 0 0] 53, .row p (e51Md u0 ao1 cap2) 51, .own t8 5 (sm l) u0.Size.toNat (List.replicate u0.Size.toNat (0 : Int)), .row n [i6 u0.ID, .bool u0.Long, .bool false, .bool false, i6 0, .slice (sm l) (List.replicate u0.Size.toNat (0 : Int)).length u0.Size.toNat] 53] Z iX := fF; clear fF
    refine nlH (fE _ _ ?_); clear fE iW
    refine sqH ?_; intro iY fG
    refine bt cR ca 5 [1, 0, 0] [] [(22, .agg (e23Md g).toArray), (24, i6 ((mget j g.Name).getD ((⟨[], 0, 0⟩ : Reading) : Reading)).Num), (26, i6 ((mget j g.Name).getD ((⟨[], 0, 0⟩ : Reading) : Reading)).Den)] ?_; intro l3 fH; clear cR
    refine fc fH ca (sraw_fun g ((mget j g.Name).getD ((⟨[], 0, 0⟩ : Reading) : Reading)).Num ((mget j g.Name).getD ((⟨[], 0, 0⟩ : Reading) : Reading)).Den _ _ ca.fz) ?_; intro l4 l5 fI aO; clear fH ca
    refine bt fI aO 5 [] [] [(7, i6 (rawS g ((mget j g.Name).getD ((⟨[], 0, 0⟩ : Reading) : Reading)).Num ((mget j g.Name).getD ((⟨[], 0, 0⟩ : Reading) : Reading)).Den).1), (8, i6 (rawS g ((mget j g.Name).getD ((⟨[], 0, 0⟩ : Reading) : Reading)).Num ((mget j g.Name).getD ((⟨[], 0, 0⟩ : Reading) : Reading)).Den).2)] ?_; intro l6 fJ; clear fI
    refine nlH (fG _ _ ?_); clear fG iY
    refine wp_seq ?_
    refine sqB fJ aO [] [] [(31, .bool ((rawS g ((mget j g.Name).getD ((⟨[], 0, 0⟩ : Reading) : Reading)).Num ((mget j g.Name).getD ((⟨[], 0, 0⟩ : Reading) : Reading)).Den).2 == 0))] ?_; intro fK fL; clear fJ
    have fM : Fr 38 [] [⟨2, [], pt n 0⟩, ⟨3, [], pt ab 0⟩, ⟨7, [], i6 (rawS g ((mget j g.Name).getD ((⟨[], 0, 0⟩ : Reading) : Reading)).Num ((mget j g.Name).getD ((⟨[], 0, 0⟩ : Reading) : Reading)).Den).1⟩, ⟨8, [], i6 (rawS g ((mget j g.Name).getD ((⟨[], 0, 0⟩ : Reading) : Reading)).Num ((mget j g.Name).getD ((⟨[], 0, 0⟩ : Reading) : Reading)).Den).2⟩, ⟨31, [], .bool ((rawS g ((mget j g.Name).getD ((⟨[], 0, 0⟩ : Reading) : Reading)).Num ((mget j g.Name).getD ((⟨[], 0, 0⟩ : Reading) : Reading)).Den).2 == 0)⟩] fK := fL.reg; clear fL
    have bs : Fr 38 [] [⟨2, [], pt n 0⟩, ⟨3, [], pt ab 0⟩, ⟨7, [], i6 (rawS g ((mget j g.Name).getD ((⟨[], 0, 0⟩ : Reading) : Reading)).Num ((mget j g.Name).getD ((⟨[], 0, 0⟩ : Reading) : Reading)).Den).1⟩, ⟨8, [], i6 (rawS g ((mget j g.Name).getD ((⟨[], 0, 0⟩ : Reading) : Reading)).Num ((mget j g.Name).getD ((⟨[], 0, 0⟩ : Reading) : Reading)).Den).2⟩, ⟨31, [], .bool ((rawS g ((mget j g.Name).getD ((⟨[], 0, 0⟩ : Reading) : Reading)).Num ((mget j g.Name).getD ((⟨[], 0, 0⟩ : Reading) : Reading)).Den).2 == 0)⟩] fK := fM.reg; clear fM
    obtain ⟨iZ, cb, i0⟩ := iV
    refine wp_then_k fun KJ741 hKJ742 => ?_
    have fN : ∀ (H : List Int) (aV : Fz), iZ H ∧ Fz.le Z aV → ∀ a1 L, Fr 38 [] [⟨8, [], i6 (rawS g ((mget j g.Name).getD ((⟨[], 0, 0⟩ : Reading) : Reading)).Num ((mget j g.Name).getD ((⟨[], 0, 0⟩ : Reading) : Reading)).Den).2⟩] a1 → Mem w.heap.size [] w Z [.row aI (e30Md ((mget j g.Name).getD ((⟨[], 0, 0⟩ : Reading) : Reading))) 30, .row ab (e23Md g) 23, .row y [.map (some u)] 88, .map (fun x : List UInt8 => str x) (fun x : Reading => .agg (e30Md x).toArray) u (mdel j g.Name), .row q [i6 0, .bool false, .bool false, .bool false, i6 0, .slice none 0 0] 53, .row p (e51Md u0 ao1 cap2) 51, .own t8 5 (sm l) u0.Size.toNat H, .row n [i6 u0.ID, .bool u0.Long, .bool false, .bool false, i6 0, .slice (sm l) H.length u0.Size.toNat] 53] aV L → KJ741 a1 L := by
     rintro H aV ⟨i1, bu⟩ l7 i2 fO cS; clear bs aO
     refine hKJ742 _ _ ?_; clear hKJ742
     have cc := i0 H i1
     replace D := Fz.le.trans D bu
     have l8 := bb.mono bu
     have l9 := bc.mono bu
     have i3 := b5.mono bu
     have ma := b7.mono bu
     refine sqB fO cS [] [] [(4, i6 (rawS g ((mget j g.Name).getD ((⟨[], 0, 0⟩ : Reading) : Reading)).Num ((mget j g.Name).getD ((⟨[], 0, 0⟩ : Reading) : Reading)).Den).2)] ?_; intro mb fP; clear fO
     refine wp_ret ?_
     refine ra1 fP (i6 (rawS g ((mget j g.Name).getD ((⟨[], 0, 0⟩ : Reading) : Reading)).Num ((mget j g.Name).getD ((⟨[], 0, 0⟩ : Reading) : Reading)).Den).2) ?_
     refine ⟨_, rfl, ?_⟩; intro mc fQ; clear cM fP
     refine s1 fQ 14 (i6 (rawS g ((mget j g.Name).getD ((⟨[], 0, 0⟩ : Reading) : Reading)).Num ((mget j g.Name).getD ((⟨[], 0, 0⟩ : Reading) : Reading)).Den).2) ?_; intro md fR; clear fQ
     have bv : Mem w.heap.size [] w Z [.row aI (e30Md ((mget j g.Name).getD ((⟨[], 0, 0⟩ : Reading) : Reading))) 30, .row ab (e23Md g) 23, .row y [.map (some u)] 88, .map (fun x : List UInt8 => str x) (fun x : Reading => .agg (e30Md x).toArray) u (mdel j g.Name), .row q [i6 0, .bool false, .bool false, .bool false, i6 0, .slice none 0 0] 53, .row p (e51Md u0 ao1 cap2) 51, .own t8 5 (sm l) u0.Size.toNat H, .row n [i6 u0.ID, .bool u0.Long, .bool false, .bool false, i6 0, .slice (sm l) H.length u0.Size.toNat] 53] aV i2 := cS; clear cS
     refine nlH (b6 _ _ ?_); clear b6 fd
     refine sqB fR bv [] [] [(66, .bool ((rawS g ((mget j g.Name).getD ((⟨[], 0, 0⟩ : Reading) : Reading)).Num ((mget j g.Name).getD ((⟨[], 0, 0⟩ : Reading) : Reading)).Den).2 != 0))] ?_; intro me ce; clear fR
     refine cd ce (t := (rawS g ((mget j g.Name).getD ((⟨[], 0, 0⟩ : Reading) : Reading)).Num ((mget j g.Name).getD ((⟨[], 0, 0⟩ : Reading) : Reading)).Den).2 != 0) (by kernel_rfl) (fun cT => ?_) (fun cT => ?_)
     ·
      have i4 := cc.1 cT; clear cc
      refine sqH ?_; intro i5 fS
      refine bt ce bv 2 [] [] [(67, .agg #[i6 0, .bool false, .bool false, .bool false, i6 0, .slice none 0 0]), (68, i6 (rawS g ((mget j g.Name).getD ((⟨[], 0, 0⟩ : Reading) : Reading)).Num ((mget j g.Name).getD ((⟨[], 0, 0⟩ : Reading) : Reading)).Den).2)] ?_; intro mf cU; clear ce
      refine sx cU bv 4 [i6 0, .bool false, .bool false, .bool false, i6 0, .slice none 0 0] 0 ?_; intro i7 fT; clear bv
      refine s1 cU 5 (i6 (rawS g ((mget j g.Name).getD ((⟨[], 0, 0⟩ : Reading) : Reading)).Num ((mget j g.Name).getD ((⟨[], 0, 0⟩ : Reading) : Reading)).Den).2) ?_; intro mg fU; clear cU
      have fV : Mem w.heap.size [] w Z [.row aI (e30Md ((mget j g.Name).getD ((⟨[], 0, 0⟩ : Reading) : Reading))) 30, .row ab (e23Md g) 23, .row y [.map (some u)] 88, .map (fun x : List UInt8 => str x) (fun x : Reading => .agg (e30Md x).toArray) u (mdel j g.Name), .row q [i6 0, .bool false, .bool false, .bool false, i6 0, .slice none 0 0] 53, .row p (e51Md u0 ao1 cap2) 51, .own t8 5 (sm l) u0.Size.toNat H, .row n [i6 u0.ID, .bool u0.Long, .bool false, .bool false, i6 0, .slice (sm l) H.length u0.Size.toNat] 53] aV i7 := fT; clear fT
      refine nlH (fS _ _ ?_); clear fS i5
      refine wp_ret ?_
      refine thr ?_
      refine rt (fn := Try.f18) (v := .tuple #[.agg #[i6 0, .bool false, .bool false, .bool false, i6 0, .slice none 0 0], i6 (rawS g ((mget j g.Name).getD ((⟨[], 0, 0⟩ : Reading) : Reading)).Num ((mget j g.Name).getD ((⟨[], 0, 0⟩ : Reading) : Reading)).Den).2]) fU (re2c fU (fn := Try.f18) rfl (ad := ⟨q, 0, none⟩) (by kernel_rfl) (loadVar_run fV 4 (b := q) (k := 6) (vs := [i6 0, .bool false, .bool false, .bool false, i6 0, .slice none 0 0]) (ty := 53) rfl (by kernel_rfl) (by kernel_rfl)) (by kernel_rfl)) ?_
      exact ⟨((⟨0, false, false, false, 0, []⟩ : Frame), (rawS g ((mget j g.Name).getD ((⟨[], 0, 0⟩ : Reading) : Reading)).Num ((mget j g.Name).getD ((⟨[], 0, 0⟩ : Reading) : Reading)).Den).2), none, 0, aV, rfl, i4, (SlR.nil _ _), fV.keep (List.Sublist.cons _ (List.Sublist.cons _ (List.Sublist.cons _ (List.Sublist.cons _ (List.Sublist.cons _ (List.Sublist.cons _ (List.Sublist.cons _ (List.Sublist.cons _ (List.Sublist.slnil)))))))))⟩
     have i8 := cc.2 cT; clear cc
     refine wp_skip ?_
     refine rd ?_
     exact dE (mdel j g.Name) H aV ⟨i8, i3⟩ _ _ ((ce.reg).anyβ _ (by kernel_rfl)) (bv.keep (List.Sublist.cons _ (List.Sublist.cons _ (List.Sublist.cons_cons _ (List.Sublist.cons_cons _ (List.Sublist.cons_cons _ (List.Sublist.cons_cons _ (List.Sublist.cons_cons _ (List.Sublist.cons_cons _ (List.Sublist.slnil))))))))))
    have cf := Fz.le.refl Z
    refine cd bs (t := (rawS g ((mget j g.Name).getD ((⟨[], 0, 0⟩ : Reading) : Reading)).Num ((mget j g.Name).getD ((⟨[], 0, 0⟩ : Reading) : Reading)).Den).2 == 0) (by kernel_rfl) (fun cV => ?_) (fun cV => ?_)
    ·
     have i9 := cb.1 cV; clear cb
     refine rgH ?_; intro ja fW
     refine bt bs aO 4 [1, 7] [] [(32, .agg (e23Md g).toArray), (34, .slice (sm l) (List.replicate u0.Size.toNat (0 : Int)).length u0.Size.toNat), (35, i6 (rawS g ((mget j g.Name).getD ((⟨[], 0, 0⟩ : Reading) : Reading)).Num ((mget j g.Name).getD ((⟨[], 0, 0⟩ : Reading) : Reading)).Den).1)] ?_; intro mh fX; clear bs
     obtain ⟨jb, fY⟩ := i9
     refine ck fX 26 #[.agg (e23Md g).toArray, .slice (sm l) (List.replicate u0.Size.toNat (0 : Int)).length u0.Size.toNat, i6 (rawS g ((mget j g.Name).getD ((⟨[], 0, 0⟩ : Reading) : Reading)).Num ((mget j g.Name).getD ((⟨[], 0, 0⟩ : Reading) : Reading)).Den).1] ?_
     refine (sputd_fun g (List.replicate u0.Size.toNat (0 : Int)) (rawS g ((mget j g.Name).getD ((⟨[], 0, 0⟩ : Reading) : Reading)).Num ((mget j g.Name).getD ((⟨[], 0, 0⟩ : Reading) : Reading)).Den).1 jb (sm l) u0.Size.toNat _ _ _ _ _ _ (aO.perm (pk 6 rfl)) aO.fz).mono ?_; rintro _ fZ ⟨cW, rfl, a7, jc, hm⟩; refine ⟨_, rfl, ?_⟩; intro jd f0; have f1 := hm; clear hm aO fX
     replace bb := bb.mono a7
     replace bc := bc.mono a7
     replace b5 := b5.mono a7
     replace b7 := b7.mono a7
     replace cf := cf.mono a7
     replace D := Fz.le.trans D a7
     have je : Fr 38 [] [⟨2, [], pt n 0⟩, ⟨3, [], pt ab 0⟩, ⟨7, [], i6 (rawS g ((mget j g.Name).getD ((⟨[], 0, 0⟩ : Reading) : Reading)).Num ((mget j g.Name).getD ((⟨[], 0, 0⟩ : Reading) : Reading)).Den).1⟩, ⟨8, [], i6 (rawS g ((mget j g.Name).getD ((⟨[], 0, 0⟩ : Reading) : Reading)).Num ((mget j g.Name).getD ((⟨[], 0, 0⟩ : Reading) : Reading)).Den).2⟩, ⟨31, [], .bool ((rawS g ((mget j g.Name).getD ((⟨[], 0, 0⟩ : Reading) : Reading)).Num ((mget j g.Name).getD ((⟨[], 0, 0⟩ : Reading) : Reading)).Den).2 == 0)⟩, ⟨32, [], .agg (e23Md g).toArray⟩, ⟨34, [], .slice (sm l) (putS g (List.replicate u0.Size.toNat (0 : Int)) (rawS g ((mget j g.Name).getD ((⟨[], 0, 0⟩ : Reading) : Reading)).Num ((mget j g.Name).getD ((⟨[], 0, 0⟩ : Reading) : Reading)).Den).1).length u0.Size.toNat⟩, ⟨35, [], i6 (rawS g ((mget j g.Name).getD ((⟨[], 0, 0⟩ : Reading) : Reading)).Num ((mget j g.Name).getD ((⟨[], 0, 0⟩ : Reading) : Reading)).Den).1⟩, ⟨36, [], .tuple #[]⟩] jd := by rw [jc]; exact f0.reg
     clear f0
     have jf : (putS g (List.replicate u0.Size.toNat (0 : Int)) (rawS g ((mget j g.Name).getD ((⟨[], 0, 0⟩ : Reading) : Reading)).Num ((mget j g.Name).getD ((⟨[], 0, 0⟩ : Reading) : Reading)).Den).1).length = (List.replicate u0.Size.toNat (0 : Int)).length := by first | assumption | (simp; try omega)
     have f2 : Mem w.heap.size [] w Z [.own t8 5 (sm l) u0.Size.toNat (putS g (List.replicate u0.Size.toNat (0 : Int)) (rawS g ((mget j g.Name).getD ((⟨[], 0, 0⟩ : Reading) : Reading)).Num ((mget j g.Name).getD ((⟨[], 0, 0⟩ : Reading) : Reading)).Den).1), .row aI (e30Md ((mget j g.Name).getD ((⟨[], 0, 0⟩ : Reading) : Reading))) 30, .row ab (e23Md g) 23, .row y [.map (some u)] 88, .map (fun x : List UInt8 => str x) (fun x : Reading => .agg (e30Md x).toArray) u (mdel j g.Name), .row q [i6 0, .bool false, .bool false, .bool false, i6 0, .slice none 0 0] 53, .row p (e51Md u0 ao1 cap2) 51, .row n [i6 u0.ID, .bool u0.Long, .bool false, .bool false, i6 0, .slice (sm l) (putS g (List.replicate u0.Size.toNat (0 : Int)) (rawS g ((mget j g.Name).getD ((⟨[], 0, 0⟩ : Reading) : Reading)).Num ((mget j g.Name).getD ((⟨[], 0, 0⟩ : Reading) : Reading)).Den).1).length u0.Size.toNat] 53] cW fZ := by rw [jf]; exact f1
     clear f1
     have f3 : Mem w.heap.size [] w Z [.own t8 5 (sm l) u0.Size.toNat (putS g (List.replicate u0.Size.toNat (0 : Int)) (rawS g ((mget j g.Name).getD ((⟨[], 0, 0⟩ : Reading) : Reading)).Num ((mget j g.Name).getD ((⟨[], 0, 0⟩ : Reading) : Reading)).Den).1), .row aI (e30Md ((mget j g.Name).getD ((⟨[], 0, 0⟩ : Reading) : Reading))) 30, .row ab (e23Md g) 23, .row y [.map (some u)] 88, .map (fun x : List UInt8 => str x) (fun x : Reading => .agg (e30Md x).toArray) u (mdel j g.Name), .row q [i6 0, .bool false, .bool false, .bool false, i6 0, .slice none 0 0] 53, .row p (e51Md u0 ao1 cap2) 51, .row n [i6 u0.ID, .bool u0.Long, .bool false, .bool false, i6 0, .slice (sm l) (putS g (List.replicate u0.Size.toNat (0 : Int)) (rawS g ((mget j g.Name).getD ((⟨[], 0, 0⟩ : Reading) : Reading)).Num ((mget j g.Name).getD ((⟨[], 0, 0⟩ : Reading) : Reading)).Den).1).length u0.Size.toNat] 53] cW fZ := f2; clear f2
     have jg := fY (f3.ownSmall 0 rfl); clear fY
     refine nlH (fW _ _ ?_); clear fW ja
     refine rd ?_
     have jh := f3.perm ((pk 1 rfl).trans (((pk 1 rfl).trans (((pk 1 rfl).trans (((pk 1 rfl).trans (((pk 1 rfl).trans (((pk 1 rfl).trans (lpr.cons _)).cons _)).cons _)).cons _)).cons _)).cons _))
     exact fN (putS g (List.replicate u0.Size.toNat (0 : Int)) (rawS g ((mget j g.Name).getD ((⟨[], 0, 0⟩ : Reading) : Reading)).Num ((mget j g.Name).getD ((⟨[], 0, 0⟩ : Reading) : Reading)).Den).1) cW ⟨jg, cf⟩ _ _ ((je.reg).anyβ _ (by kernel_rfl)) (jh.keep (List.Sublist.cons_cons _ (List.Sublist.cons_cons _ (List.Sublist.cons_cons _ (List.Sublist.cons_cons _ (List.Sublist.cons_cons _ (List.Sublist.cons_cons _ (List.Sublist.cons_cons _ (List.Sublist.cons_cons _ (List.Sublist.slnil))))))))))
    have ji := cb.2 cV; clear cb
    refine wp_skip ?_
    refine rd ?_
    exact fN (List.replicate u0.Size.toNat (0 : Int)) Z ⟨ji, cf⟩ _ _ ((bs.reg).anyβ _ (by kernel_rfl)) (aO.keep (List.Sublist.cons_cons _ (List.Sublist.cons_cons _ (List.Sublist.cons_cons _ (List.Sublist.cons_cons _ (List.Sublist.cons_cons _ (List.Sublist.cons_cons _ (List.Sublist.cons_cons _ (List.Sublist.cons_cons _ (List.Sublist.slnil))))))))))
   have jj := bI.2 cL; clear bI
   refine wp_skip ?_
   refine rd ?_
   exact dE j (List.replicate u0.Size.toNat (0 : Int)) Z ⟨jj, b5⟩ _ _ ((bd.reg).anyβ _ (by kernel_rfl)) (aL.keep (List.Sublist.cons_cons _ (List.Sublist.cons_cons _ (List.Sublist.cons_cons _ (List.Sublist.cons_cons _ (List.Sublist.cons_cons _ (List.Sublist.cons_cons _ (List.Sublist.slnil))))))))
  refine wp_block ?_
  have f4 : Fr 102 [] [⟨2, [], pt p 0⟩, ⟨4, [], pt q 0⟩, ⟨7, [], pt n 0⟩, ⟨8, [], pt y 0⟩, ⟨33, [], .slice ao4 u1.length cap5⟩, ⟨34, [], i6 (u1.length : Int)⟩, ⟨35, [], i6 0⟩] bH := cp.reg; clear cp
  have f5 : Fr 102 [] [⟨2, [], pt p 0⟩, ⟨4, [], pt q 0⟩, ⟨7, [], pt n 0⟩, ⟨8, [], pt y 0⟩, ⟨33, [], .slice ao4 u1.length cap5⟩, ⟨34, [], i6 (u1.length : Int)⟩, ⟨35, [], i6 0⟩] bH := f4.reg; clear f4
  obtain ⟨jk, jl, jm, jn⟩ := g9
  refine lp (ι := Int × (List (List UInt8 × Reading))) (fun s => [⟨2, [], pt p 0⟩, ⟨4, [], pt q 0⟩, ⟨7, [], pt n 0⟩, ⟨8, [], pt y 0⟩, ⟨33, [], .slice ao4 u1.length cap5⟩, ⟨34, [], i6 (u1.length : Int)⟩, ⟨35, [], i6 s.1⟩]) (fun s => [.row y [.map (some u)] 88, .map (fun x : List UInt8 => str x) (fun x : Reading => .agg (e30Md x).toArray) u s.2, .row q [i6 0, .bool false, .bool false, .bool false, i6 0, .slice none 0 0] 53, .row p (e51Md u0 ao1 cap2) 51, .own t8 5 (sm l) u0.Size.toNat (List.replicate u0.Size.toNat (0 : Int)), .row n [i6 u0.ID, .bool u0.Long, .bool false, .bool false, i6 0, .slice (sm l) (List.replicate u0.Size.toNat (0 : Int)).length u0.Size.toNat] 53]) (fun s => Z) (fun s => jk s.1 s.2) (fun s => jl s.1 s.2) ⟨0, ([] : List (List UInt8 × Reading))⟩ jm (by exact f5.reg) (by exact bG) ?_
  rintro ⟨aW, F⟩ jo jp jq f6 f7
  have f8 : Fr 102 [] [⟨2, [], pt p 0⟩, ⟨4, [], pt q 0⟩, ⟨7, [], pt n 0⟩, ⟨8, [], pt y 0⟩, ⟨33, [], .slice ao4 u1.length cap5⟩, ⟨34, [], i6 (u1.length : Int)⟩, ⟨35, [], i6 aW⟩] jp := f6; clear f6 f5
  have bw : Mem w.heap.size [] w Z [.row y [.map (some u)] 88, .map (fun x : List UInt8 => str x) (fun x : Reading => .agg (e30Md x).toArray) u F, .row q [i6 0, .bool false, .bool false, .bool false, i6 0, .slice none 0 0] 53, .row p (e51Md u0 ao1 cap2) 51, .own t8 5 (sm l) u0.Size.toNat (List.replicate u0.Size.toNat (0 : Int)), .row n [i6 u0.ID, .bool u0.Long, .bool false, .bool false, i6 0, .slice (sm l) (List.replicate u0.Size.toNat (0 : Int)).length u0.Size.toNat] 53] Z jq := f7; clear f7 bG
  have cg := jn aW F jo
  refine sqB f8 bw [] [] [(36, .bool (decide (aW < (u1.length : Int))))] ?_; intro mi ch; clear f8
  refine wp_seq ?_
  refine cd ch (t := decide (aW < (u1.length : Int))) (by kernel_rfl) (fun cX => ?_) (fun cX => ?_)
  ·
   have jr := cg.1 cX; clear cg
   refine wp_skip ?_
   refine thn ?_
   refine wp_seq ?_
   refine wp_block ?_
   refine sqH ?_; intro js f9
   obtain ⟨jt, ga⟩ := jr
   refine ix ch (T := tyReading) (xs := u1) bc aW jt (k := .i64) (e := 30) (bytes := 32) (nog rfl _) rfl (by kernel_rfl) rfl (by kernel_rfl) (by kernel_rfl) (by kernel_rfl) ?_; intro mj mk ju B ml jv jw jx gb; clear ch
   have ci := ga B jv; clear ga
   obtain rfl : ju = ((e30Md B) : List Value) := jx
   refine z2 gb bw 38 jw 0 3 (e30Md B) rfl ?_; intro mm gc; clear gb
   refine nw gc bw pb [str [], i6 0, i6 0] 30 ?_; intro cj mn mo cY gd; clear gc bw
   refine sx cY gd 0 (e30Md B) 0 ?_; intro jy ge; clear gd
   have bx : Mem w.heap.size [] w Z [.row cj (e30Md B) 30, .row y [.map (some u)] 88, .map (fun x : List UInt8 => str x) (fun x : Reading => .agg (e30Md x).toArray) u F, .row q [i6 0, .bool false, .bool false, .bool false, i6 0, .slice none 0 0] 53, .row p (e51Md u0 ao1 cap2) 51, .own t8 5 (sm l) u0.Size.toNat (List.replicate u0.Size.toNat (0 : Int)), .row n [i6 u0.ID, .bool u0.Long, .bool false, .bool false, i6 0, .slice (sm l) (List.replicate u0.Size.toNat (0 : Int)).length u0.Size.toNat] 53] Z jy := ge; clear ge
   refine nlH (f9 _ _ ?_); clear f9 js
   refine wp_seq ?_
   refine sqH ?_; intro jz gf
   refine bt cY bx 3 [1, 0] [] [(40, .map (some u)), (42, str B.Name)] ?_; intro mp gg; clear cY
   refine lkO gg bx 2 (m := F) B.Name ((⟨[], 0, 0⟩ : Reading) : Reading) (t := 88) (kt := 9) (et := 30) (nog rfl _) rfl (by kernel_rfl) rfl (by kernel_rfl) (by kernel_rfl) rfl (MKey.str (by kernel_rfl)) (by kernel_rfl) (by kernel_rfl) ?_; intro mq gh; clear gg
   refine bt gh bx 3 [] [] [(44, .agg (e30Md ((mget F B.Name).getD ((⟨[], 0, 0⟩ : Reading) : Reading))).toArray), (45, .bool (mget F B.Name).isSome)] ?_; intro mr gi; clear gh
   refine nw gi bx pb [str [], i6 0, i6 0] 30 ?_; intro cZ ms mt c0 gj; clear gi bx
   refine sx c0 gj 0 (e30Md ((mget F B.Name).getD ((⟨[], 0, 0⟩ : Reading) : Reading))) 0 ?_; intro jA gk; clear gj
   refine s1 c0 12 (.bool (mget F B.Name).isSome) ?_; intro mu gl; clear c0
   have a8 : Mem w.heap.size [] w Z [.row cZ (e30Md ((mget F B.Name).getD ((⟨[], 0, 0⟩ : Reading) : Reading))) 30, .row cj (e30Md B) 30, .row y [.map (some u)] 88, .map (fun x : List UInt8 => str x) (fun x : Reading => .agg (e30Md x).toArray) u F, .row q [i6 0, .bool false, .bool false, .bool false, i6 0, .slice none 0 0] 53, .row p (e51Md u0 ao1 cap2) 51, .own t8 5 (sm l) u0.Size.toNat (List.replicate u0.Size.toNat (0 : Int)), .row n [i6 u0.ID, .bool u0.Long, .bool false, .bool false, i6 0, .slice (sm l) (List.replicate u0.Size.toNat (0 : Int)).length u0.Size.toNat] 53] Z jA := gk; clear gk
   refine nlH (gf _ _ ?_); clear gf jz
   refine sqB gl a8 [] [] [(46, .bool (mget F B.Name).isSome)] ?_; intro mv bz; clear gl
   refine cd bz (t := (mget F B.Name).isSome) (by kernel_rfl) (fun c1 => ?_) (fun c1 => ?_)
   ·
    have jB := ci.1 c1; clear ci
    refine sqH ?_; intro jC gm
    refine s1 bz 47 (.agg #[i6 0, .bool false, .bool false, .bool false, i6 0, .slice none 0 0]) ?_; intro mw c2; clear bz
    refine sx c2 a8 4 [i6 0, .bool false, .bool false, .bool false, i6 0, .slice none 0 0] 0 ?_; intro jD gn; clear a8
    refine s1 c2 5 (i6 9) ?_; intro mx go; clear c2
    have gp : Mem w.heap.size [] w Z [.row cZ (e30Md ((mget F B.Name).getD ((⟨[], 0, 0⟩ : Reading) : Reading))) 30, .row cj (e30Md B) 30, .row y [.map (some u)] 88, .map (fun x : List UInt8 => str x) (fun x : Reading => .agg (e30Md x).toArray) u F, .row q [i6 0, .bool false, .bool false, .bool false, i6 0, .slice none 0 0] 53, .row p (e51Md u0 ao1 cap2) 51, .own t8 5 (sm l) u0.Size.toNat (List.replicate u0.Size.toNat (0 : Int)), .row n [i6 u0.ID, .bool u0.Long, .bool false, .bool false, i6 0, .slice (sm l) (List.replicate u0.Size.toNat (0 : Int)).length u0.Size.toNat] 53] Z jD := gn; clear gn
    refine nlH (gm _ _ ?_); clear gm jC
    refine wp_ret ?_
    refine thr ?_
    refine ibr ?_
    refine thr ?_
    refine thr ?_
    refine ibr ?_
    refine thr ?_
    refine rt (fn := Try.f18) (v := .tuple #[.agg #[i6 0, .bool false, .bool false, .bool false, i6 0, .slice none 0 0], i6 9]) go (re2c go (fn := Try.f18) rfl (ad := ⟨q, 0, none⟩) (by kernel_rfl) (loadVar_run gp 4 (b := q) (k := 6) (vs := [i6 0, .bool false, .bool false, .bool false, i6 0, .slice none 0 0]) (ty := 53) rfl (by kernel_rfl) (by kernel_rfl)) (by kernel_rfl)) ?_
    exact ⟨((⟨0, false, false, false, 0, []⟩ : Frame), 9), none, 0, Z, rfl, jB, (SlR.nil _ _), gp.keep (List.Sublist.cons _ (List.Sublist.cons _ (List.Sublist.cons _ (List.Sublist.cons _ (List.Sublist.cons _ (List.Sublist.cons _ (List.Sublist.cons _ (List.Sublist.cons _ (List.Sublist.slnil)))))))))⟩
   have gq := ci.2 c1; clear ci
   refine wp_skip ?_
   refine thn ?_
   refine rgH ?_; intro jE gr
   refine bt bz a8 4 [2, 1, 1] [] [(48, .map (some u)), (50, str B.Name), (51, .agg (e30Md B).toArray)] ?_; intro my c3; clear bz
   refine mup c3 a8 3 (m := F) B.Name B (t := 88) (kt := 9) (et := 30) (nog rfl _) rfl rfl (by kernel_rfl) (by kernel_rfl) (by kernel_rfl) rfl (MKey.str (by kernel_rfl)) (by kernel_rfl) ?_; intro jF gs; clear a8
   have gt : Mem w.heap.size [] w Z [.row cZ (e30Md ((mget F B.Name).getD ((⟨[], 0, 0⟩ : Reading) : Reading))) 30, .row cj (e30Md B) 30, .row y [.map (some u)] 88, .map (fun x : List UInt8 => str x) (fun x : Reading => .agg (e30Md x).toArray) u (mput F B.Name B), .row q [i6 0, .bool false, .bool false, .bool false, i6 0, .slice none 0 0] 53, .row p (e51Md u0 ao1 cap2) 51, .own t8 5 (sm l) u0.Size.toNat (List.replicate u0.Size.toNat (0 : Int)), .row n [i6 u0.ID, .bool u0.Long, .bool false, .bool false, i6 0, .slice (sm l) (List.replicate u0.Size.toNat (0 : Int)).length u0.Size.toNat] 53] Z jF := gs; clear gs
   refine nlH (gr _ _ ?_); clear gr jE
   refine ibn ?_
   refine thn ?_
   refine rgB c3 gt [] [] [(35, i6 (w64 (aW + 1)))] ?_; intro mz jG; clear c3
   refine rd ?_
   exact ⟨⟨w64 (aW + 1), mput F B.Name B⟩, gq.1, gq.2, (jG.reg).anyβ _ (by kernel_rfl), gt.keep (List.Sublist.cons _ (List.Sublist.cons _ (List.Sublist.cons_cons _ (List.Sublist.cons_cons _ (List.Sublist.cons_cons _ (List.Sublist.cons_cons _ (List.Sublist.cons_cons _ (List.Sublist.cons_cons _ (List.Sublist.slnil)))))))))⟩
  have jH := cg.2 cX; clear cg
  refine wp_exit ?_
  refine thx ?_
  refine thx ?_
  refine ibx ?_
  refine rd ?_
  exact hb F jH _ _ ((ch.reg).anyβ _ (by kernel_rfl)) (bw.keep (List.Sublist.cons_cons _ (List.Sublist.cons_cons _ (List.Sublist.cons_cons _ (List.Sublist.cons_cons _ (List.Sublist.cons_cons _ (List.Sublist.cons_cons _ (List.Sublist.slnil))))))))

end Go.Proofs.Ytdndfbamhnchfaa
set_option linter.unusedVariables false
set_option linter.unusedSimpArgs false
set_option maxRecDepth 100000
set_option maxHeartbeats 0
namespace Go.Proofs.Ytdndfbamhnchfaa
open Go.Sy Go.RowKit
abbrev e51Me (X : Message) (A0 : Option Addr) (C0 : Nat) : List Value := [i6 X.ID, .bool X.Long, str X.Name, i6 X.Size, i6 X.Chooser, .slice A0 X.Signals.length C0]
abbrev e30Me (X : Reading) : List Value := [str X.Name, i6 X.Num, i6 X.Den]
theorem mread_fun (u0 : Message) (u1 : Frame) (hpre : isBytes u1.Data) (ao1 : Option Addr) (cap2 : Nat) (ao4 : Option Addr) (cap5 : Nat) (Z : Fz) (w : World) (hs3 : SlR tySignal Z ao1 cap2 u0.Signals) (hs6 : SlR t8 Z ao4 cap5 u1.Data) (hZ : Z.on w) : Calls Try.prog 16 #[.agg #[i6 u0.ID, .bool u0.Long, str u0.Name, i6 u0.Size, i6 u0.Chooser, .slice ao1 u0.Signals.length cap2], .agg #[i6 u1.ID, .bool u1.Long, .bool u1.Fast, .bool u1.Remote, i6 u1.Size, .slice ao4 u1.Data.length cap5]] w fun e w' => ∃ (ao1001 : Option Addr) (cap1002 : Nat) (Z' : Fz), e = .returned (.tuple #[.slice ao1001 (readS u0 u1).1.length cap1002, i6 (readS u0 u1).2]) ∧ Mem w.heap.size [] w Z [.own tyReading 30 ao1001 cap1002 (readS u0 u1).1] Z' w' :=
  (mread_walk u0 u1 ao1 cap2 ao4 cap5 Z w hs3 hs6 hZ (mread_ok u0 u1 hpre)).mono fun _ _ ⟨r, h0, h1, h2, he, hk, hm⟩ => by subst hk; exact ⟨h0, h1, h2, he, hm⟩

theorem mwrite_fun (u0 : Message) (u1 : List Reading) (ao1 : Option Addr) (cap2 : Nat) (ao4 : Option Addr) (cap5 : Nat) (Z : Fz) (w : World) (hs3 : SlR tySignal Z ao1 cap2 u0.Signals) (hs6 : SlR tyReading Z ao4 cap5 u1) (hZ : Z.on w) : Calls Try.prog 18 #[.agg #[i6 u0.ID, .bool u0.Long, str u0.Name, i6 u0.Size, i6 u0.Chooser, .slice ao1 u0.Signals.length cap2], .slice ao4 u1.length cap5] w fun e w' => ∃ (ao1001 : Option Addr) (cap1002 : Nat) (Z' : Fz), e = .returned (.tuple #[.agg #[i6 (writeS u0 u1).1.ID, .bool (writeS u0 u1).1.Long, .bool (writeS u0 u1).1.Fast, .bool (writeS u0 u1).1.Remote, i6 (writeS u0 u1).1.Size, .slice ao1001 (writeS u0 u1).1.Data.length cap1002], i6 (writeS u0 u1).2]) ∧ SlR t8 Z' ao1001 cap1002 (writeS u0 u1).1.Data ∧ Mem w.heap.size [] w Z [] Z' w' :=
  (mwrite_walk u0 u1 ao1 cap2 ao4 cap5 Z w hs3 hs6 hZ (mwrite_ok u0 u1)).mono fun _ _ ⟨r, h0, h1, h2, he, hk, f0, hm⟩ => by subst hk; exact ⟨h0, h1, h2, he, f0, hm⟩

theorem mca1_walk (u0 : Message) (u1 : Message) (ao1 : Option Addr) (cap2 : Nat) (cb7 co8 : Nat) (ao4 : Option Addr) (cap5 : Nat) (Z : Fz) (w : World) (hs3 : SlR tySignal Z ao1 cap2 u0.Signals) (hP9 : PtR Z cb7 co8 [i6 u1.ID, .bool u1.Long, str u1.Name, i6 u1.Size, i6 u1.Chooser, .slice ao4 u1.Signals.length cap5]) (hs6 : SlR tySignal Z ao4 cap5 u1.Signals) (hZ : Z.on w) {K : Bool → Prop} (hp : mca1_vc u0 u1 K) : Calls Try.prog 66 #[.agg #[i6 u0.ID, .bool u0.Long, str u0.Name, i6 u0.Size, i6 u0.Chooser, .slice ao1 u0.Signals.length cap2], pt cb7 co8] w fun e w' => ∃ r : Bool, e = .returned (.bool r) ∧ K r ∧ Below w.heap.size w w' := by
 refine enter0 Try.func66 rfl rfl (by kernel_rfl) ?_; intro N l; have n := Mem.start w Z hZ; have O := Fz.le.refl Z
 have I := hp (hs3.small); clear hp
 refine sqH ?_; intro J o
 refine nw l n pb (e51Me u0 ao1 cap2) 51 ?_; intro c P Q p a; clear l n
 refine s1 p 3 (.bool false) ?_; intro R q; clear p
 refine nlH (o _ _ ?_); clear o J
 refine sqH ?_; intro L s
 refine bt q a 3 [0] [] [(5, str u0.Name), (6, .pointer (some ⟨cb7, co8 + 2, none⟩))] ?_; intro S t; clear q
 refine z1 t a 7 hP9 2 (str u1.Name) rfl ?_; intro T u; clear t
 refine sc u .eql (.bool (u0.Name == u1.Name)) ?_; intro U x; clear u
 refine s1 x 9 (.bool (u0.Name == u1.Name)) ?_; intro V y; clear x
 have z := y.atom ((u0.Name == u1.Name) == false) (by kernel_rfl); clear y
 refine gp z 10 0 [] (u0.Name == u1.Name) (pt c 0) rfl rfl ?_; intro W d; clear z
 refine gd d (i6 u0.ID) (m := 0) (cj := []) (bj := u0.Name == u1.Name) rfl rfl (by kernel_rfl) rfl (by kernel_rfl) (by kernel_rfl) (by kernel_rfl) (fun hg => ld d a 0 (g := [0]) (b := c) (off := 0) (cs := (e51Me u0 ao1 cap2)) (ty := 51) rfl (by kernel_rfl) (by kernel_rfl) (by kernel_rfl) (by kernel_rfl) hg) ?_; intro X A; clear d
 refine gp A 12 0 [] (u0.Name == u1.Name) (pt cb7 co8) rfl rfl ?_; intro Y f; clear A
 refine gd f (i6 u1.ID) (m := 0) (cj := []) (bj := u0.Name == u1.Name) rfl rfl (by kernel_rfl) rfl (by kernel_rfl) (by kernel_rfl) (by kernel_rfl) (fun hg => lz f a.fz hP9 0 (g := [0]) rfl (by kernel_rfl) (by kernel_rfl) (by kernel_rfl) hg) ?_; intro aa B; clear f
 refine gp B 14 0 [] (u0.Name == u1.Name) (.bool (u0.ID == u1.ID)) rfl rfl ?_; intro ab C; clear B
 refine gp C 15 0 [] (u0.Name == u1.Name) (.bool (u0.ID == u1.ID)) rfl rfl ?_; intro ac D; clear C
 have E := D.atom ((u0.ID == u1.ID) == true) (by kernel_rfl); clear D
 refine gp E 16 1 [0] (u0.ID == u1.ID) (pt c 1) rfl rfl ?_; intro ad h; clear E
 refine gd h (.bool u0.Long) (m := 1) (cj := [0]) (bj := u0.ID == u1.ID) rfl rfl (by kernel_rfl) rfl (by kernel_rfl) (by kernel_rfl) (by kernel_rfl) (fun hg => ld h a 0 (g := [1, 0]) (b := c) (off := 1) (cs := (e51Me u0 ao1 cap2)) (ty := 51) rfl (by kernel_rfl) (by kernel_rfl) (by kernel_rfl) (by kernel_rfl) hg) ?_; intro ae F; clear h
 refine gp F 18 1 [0] (u0.ID == u1.ID) (.pointer (some ⟨cb7, co8 + 1, none⟩)) rfl rfl ?_; intro af i; clear F
 refine gd i (.bool u1.Long) (m := 1) (cj := [0]) (bj := u0.ID == u1.ID) rfl rfl (by kernel_rfl) rfl (by kernel_rfl) (by kernel_rfl) (by kernel_rfl) (fun hg => lz i a.fz hP9 1 (g := [1, 0]) rfl (by kernel_rfl) (by kernel_rfl) (by kernel_rfl) hg) ?_; intro ag G; clear i
 refine gp G 20 1 [0] (u0.ID == u1.ID) (.bool (u0.Long == u1.Long)) rfl rfl ?_; intro ah j; clear G
 refine gd j (.bool ((u0.ID == u1.ID) && (u0.Long == u1.Long))) (m := 0) (cj := []) (bj := u0.Name == u1.Name) rfl rfl (by kernel_rfl) rfl (by kernel_rfl) (by kernel_rfl) (by kernel_rfl) (fun hg => pk_and j (g := [0]) (m := 1) (b := u0.ID == u1.ID) (v := u0.Long == u1.Long) rfl (by kernel_rfl) (by kernel_rfl) (by kernel_rfl) hg) ?_; intro ai k; clear j
 refine st k (.bool ((u0.Name == u1.Name) || ((u0.ID == u1.ID) && (u0.Long == u1.Long)))) (nog rfl _) rfl (by kernel_rfl) (pk_or k (g := []) (m := 0) (b := u0.Name == u1.Name) (v := (u0.ID == u1.ID) && (u0.Long == u1.Long)) rfl (by kernel_rfl) (by kernel_rfl) (by kernel_rfl) rfl) ?_; intro aj H; clear k
 refine s1 H 3 (.bool ((u0.Name == u1.Name) || ((u0.ID == u1.ID) && (u0.Long == u1.Long)))) ?_; intro ak M; clear H
 refine nlH (s _ _ ?_); clear s L
 refine wp_ret ?_
 refine ra1 M (.bool ((u0.Name == u1.Name) || ((u0.ID == u1.ID) && (u0.Long == u1.Long)))) ?_
 exact ⟨(u0.Name == u1.Name) || ((u0.ID == u1.ID) && (u0.Long == u1.Long)), rfl, I, a.below⟩
theorem mca1_fun (u0 : Message) (u1 : Message) (ao1 : Option Addr) (cap2 : Nat) (cb7 co8 : Nat) (ao4 : Option Addr) (cap5 : Nat) (Z : Fz) (w : World) (hs3 : SlR tySignal Z ao1 cap2 u0.Signals) (hP9 : PtR Z cb7 co8 [i6 u1.ID, .bool u1.Long, str u1.Name, i6 u1.Size, i6 u1.Chooser, .slice ao4 u1.Signals.length cap5]) (hs6 : SlR tySignal Z ao4 cap5 u1.Signals) (hZ : Z.on w) : Calls Try.prog 66 #[.agg #[i6 u0.ID, .bool u0.Long, str u0.Name, i6 u0.Size, i6 u0.Chooser, .slice ao1 u0.Signals.length cap2], pt cb7 co8] w fun e w' => e = .returned (.bool (mca1 u0 u1)) ∧ Below w.heap.size w w' :=
  (mca1_walk u0 u1 ao1 cap2 cb7 co8 ao4 cap5 Z w hs3 hP9 hs6 hZ (mca1_ok u0 u1)).mono fun _ _ ⟨r, he, hk, hb⟩ => ⟨by subst hk; exact he, hb⟩

theorem mfd1_walk (u0 : Message) (u1 : Frame) (ao1 : Option Addr) (cap2 : Nat) (cb7 co8 : Nat) (ao4 : Option Addr) (cap5 : Nat) (Z : Fz) (w : World) (hs3 : SlR tySignal Z ao1 cap2 u0.Signals) (hP9 : PtR Z cb7 co8 [i6 u1.ID, .bool u1.Long, .bool u1.Fast, .bool u1.Remote, i6 u1.Size, .slice ao4 u1.Data.length cap5]) (hs6 : SlR t8 Z ao4 cap5 u1.Data) (hZ : Z.on w) {K : Bool → Prop} (hp : mfd1_vc u0 u1 K) : Calls Try.prog 47 #[.agg #[i6 u0.ID, .bool u0.Long, str u0.Name, i6 u0.Size, i6 u0.Chooser, .slice ao1 u0.Signals.length cap2], pt cb7 co8] w fun e w' => ∃ r : Bool, e = .returned (.bool r) ∧ K r ∧ Below w.heap.size w w' := by
 refine enter0 Try.func47 rfl rfl (by kernel_rfl) ?_; intro E h; have i := Mem.start w Z hZ; have F := Fz.le.refl Z
 have A := hp (hs3.small); clear hp
 refine sqH ?_; intro B j
 refine nw h i pb (e51Me u0 ao1 cap2) 51 ?_; intro k G H l a; clear h i
 refine s1 l 3 (.bool false) ?_; intro I n; clear l
 refine nlH (j _ _ ?_); clear j B
 refine sqH ?_; intro C o
 refine bt n a 3 [0] [] [(5, i6 u0.ID), (6, pt cb7 co8)] ?_; intro J p; clear n
 refine z1 p a 7 hP9 0 (i6 u1.ID) rfl ?_; intro L q; clear p
 refine s1 q 8 (.bool (u0.ID == u1.ID)) ?_; intro M s; clear q
 refine s1 s 9 (.bool (u0.ID == u1.ID)) ?_; intro N t; clear s
 have u := t.atom ((u0.ID == u1.ID) == true) (by kernel_rfl); clear t
 refine gp u 10 0 [] (u0.ID == u1.ID) (pt k 1) rfl rfl ?_; intro O c; clear u
 refine gd c (.bool u0.Long) (m := 0) (cj := []) (bj := u0.ID == u1.ID) rfl rfl (by kernel_rfl) rfl (by kernel_rfl) (by kernel_rfl) (by kernel_rfl) (fun hg => ld c a 0 (g := [0]) (b := k) (off := 1) (cs := (e51Me u0 ao1 cap2)) (ty := 51) rfl (by kernel_rfl) (by kernel_rfl) (by kernel_rfl) (by kernel_rfl) hg) ?_; intro P x; clear c
 refine gp x 12 0 [] (u0.ID == u1.ID) (.pointer (some ⟨cb7, co8 + 1, none⟩)) rfl rfl ?_; intro Q d; clear x
 refine gd d (.bool u1.Long) (m := 0) (cj := []) (bj := u0.ID == u1.ID) rfl rfl (by kernel_rfl) rfl (by kernel_rfl) (by kernel_rfl) (by kernel_rfl) (fun hg => lz d a.fz hP9 1 (g := [0]) rfl (by kernel_rfl) (by kernel_rfl) (by kernel_rfl) hg) ?_; intro R y; clear d
 refine gp y 14 0 [] (u0.ID == u1.ID) (.bool (u0.Long == u1.Long)) rfl rfl ?_; intro S f; clear y
 refine st f (.bool ((u0.ID == u1.ID) && (u0.Long == u1.Long))) (nog rfl _) rfl (by kernel_rfl) (pk_and f (g := []) (m := 0) (b := u0.ID == u1.ID) (v := u0.Long == u1.Long) rfl (by kernel_rfl) (by kernel_rfl) (by kernel_rfl) rfl) ?_; intro T z; clear f
 refine s1 z 3 (.bool ((u0.ID == u1.ID) && (u0.Long == u1.Long))) ?_; intro U D; clear z
 refine nlH (o _ _ ?_); clear o C
 refine wp_ret ?_
 refine ra1 D (.bool ((u0.ID == u1.ID) && (u0.Long == u1.Long))) ?_
 exact ⟨(u0.ID == u1.ID) && (u0.Long == u1.Long), rfl, A, a.below⟩
theorem mfd1_fun (u0 : Message) (u1 : Frame) (ao1 : Option Addr) (cap2 : Nat) (cb7 co8 : Nat) (ao4 : Option Addr) (cap5 : Nat) (Z : Fz) (w : World) (hs3 : SlR tySignal Z ao1 cap2 u0.Signals) (hP9 : PtR Z cb7 co8 [i6 u1.ID, .bool u1.Long, .bool u1.Fast, .bool u1.Remote, i6 u1.Size, .slice ao4 u1.Data.length cap5]) (hs6 : SlR t8 Z ao4 cap5 u1.Data) (hZ : Z.on w) : Calls Try.prog 47 #[.agg #[i6 u0.ID, .bool u0.Long, str u0.Name, i6 u0.Size, i6 u0.Chooser, .slice ao1 u0.Signals.length cap2], pt cb7 co8] w fun e w' => e = .returned (.bool (mfd1 u0 u1)) ∧ Below w.heap.size w w' :=
  (mfd1_walk u0 u1 ao1 cap2 cb7 co8 ao4 cap5 Z w hs3 hP9 hs6 hZ (mfd1_ok u0 u1)).mono fun _ _ ⟨r, he, hk, hb⟩ => ⟨by subst hk; exact he, hb⟩

theorem midxf_walk (u0 : List Message) (u1 : Message → Bool) (ao1 : Option Addr) (cap2 : Nat) (fid4 : Nat) (caps5 : Array Value) (Z : Fz) (w : World) (hs3 : SlR tyMessage Z ao1 cap2 u0) (hf6 : ∀ (Z1 : Fz) (w1 : World), Z.le Z1 → Z1.on w1 → ∀ (x0 : Message) (xao0 : Option Addr) (xcap0 : Nat), SlR tySignal Z1 xao0 xcap0 x0.Signals → Calls Try.prog fid4 (#[.agg #[i6 x0.ID, .bool x0.Long, str x0.Name, i6 x0.Size, i6 x0.Chooser, .slice xao0 x0.Signals.length xcap0]] ++ caps5) w1 fun e w2 => e = .returned (.bool (u1 x0)) ∧ Below w1.heap.size w1 w2) (hg7 : ∀ x w, Sem.run Try.prog (callFunc fid4 x) w = .ok (.enter fid4 x) w) (hZ : Z.on w) {K : Int → Prop} (hp : midxf_vc u0 u1 K) : Calls Try.prog 46 #[.slice ao1 u0.length cap2, .func (.func fid4) #[] caps5] w fun e w' => ∃ r : Int, e = .returned (i6 r) ∧ K r ∧ Below w.heap.size w w' := by
 refine enter0 Try.func46 rfl rfl (by kernel_rfl) ?_; intro a0 p; have g := Mem.start w Z hZ; have N := Fz.le.refl Z
 have O := hp (hs3.small); clear hp
 refine sqB p g [] [] [] ?_; intro ak q; clear p
 refine wp_seq ?_
 refine sqB q g [] [] [(7, i6 (u0.length : Int)), (8, i6 0)] ?_; intro u v; clear q
 refine wp_block ?_
 have y : Fr 19 [] [⟨0, [], .slice ao1 u0.length cap2⟩, ⟨1, [], .func (.func fid4) #[] caps5⟩, ⟨7, [], i6 (u0.length : Int)⟩, ⟨8, [], i6 0⟩] u := v.region (by kernel_rfl) (by kernel_rfl); clear v
 have z : Fr 19 [] [⟨0, [], .slice ao1 u0.length cap2⟩, ⟨1, [], .func (.func fid4) #[] caps5⟩, ⟨7, [], i6 (u0.length : Int)⟩, ⟨8, [], i6 0⟩] u := y.region (by kernel_rfl) (by kernel_rfl); clear y
 obtain ⟨P, Q, R, S⟩ := O
 refine lp (ι := Int) (fun s => [⟨0, [], .slice ao1 u0.length cap2⟩, ⟨1, [], .func (.func fid4) #[] caps5⟩, ⟨7, [], i6 (u0.length : Int)⟩, ⟨8, [], i6 s⟩]) (fun s => []) (fun s => Z) (fun s => P s) (fun s => Q s) 0 R (by exact z.region (by kernel_rfl) (by kernel_rfl)) (by exact g) ?_
 rintro b U V W A B
 have C : Fr 19 [] [⟨0, [], .slice ao1 u0.length cap2⟩, ⟨1, [], .func (.func fid4) #[] caps5⟩, ⟨7, [], i6 (u0.length : Int)⟩, ⟨8, [], i6 b⟩] V := A; clear A z
 have c : Mem w.heap.size [] w Z [] Z W := B; clear B g
 have h := S b U
 refine sqB C c [] [] [(9, .bool (decide (b < (u0.length : Int))))] ?_; intro al d; clear C
 refine wp_seq ?_
 refine cd d (t := decide (b < (u0.length : Int))) (by kernel_rfl) (fun l => ?_) (fun l => ?_)
 · -- yes
  have X := h.1 l; clear h
  refine wp_skip ?_
  refine thn ?_
  refine wp_seq ?_
  refine wp_block ?_
  refine sqB d c [] [] [(5, i6 b)] ?_; intro am D; clear d
  refine sqH ?_; intro Y E
  refine bt D c 3 [] [] [(11, .func (.func fid4) #[] caps5), (12, .slice ao1 u0.length cap2), (13, i6 b)] ?_; intro an F; clear D
  obtain ⟨aa, G⟩ := X
  refine ix F (T := tyMessage) (xs := u0) hs3 b aa (k := .i64) (e := 51) (bytes := 72) (nog rfl _) rfl (by kernel_rfl) rfl (by kernel_rfl) (by kernel_rfl) (by kernel_rfl) ?_; intro ao ap aq a ar ab ac ad H; clear F
  have I := G a ab; clear G
  obtain ⟨m, n, rfl, J⟩ := ad
  have i := I (J.small); clear I
  refine z2 H c 15 ac 0 6 (e51Me a m n) rfl ?_; intro au L; clear H
  have ae := hf6 _ _ N c.fz a m n J
  refine fcl L c (.bool (u1 a)) fid4 (#[.agg (e51Me a m n).toArray] ++ caps5) (nog rfl _) rfl (by kernel_rfl) ?h1 ?h2 ?_
  case h1 => exact fv_run rfl (by kernel_rfl) (by kernel_rfl) hg7
  case h2 => exact ae
  intro av aw f j; clear L c
  refine nlH (E _ _ ?_); clear E Y
  refine cd f (t := (u1 a)) (by kernel_rfl) (fun o => ?_) (fun o => ?_)
  · -- yes
   have af := i.1 o; clear i
   refine sqB f j [] [] [(4, i6 b)] ?_; intro ax ag; clear f
   refine wp_ret ?_
   refine ibr ?_
   refine thr ?_
   refine thr ?_
   refine ibr ?_
   refine thr ?_
   refine ra1 ag (i6 b) ?_
   exact ⟨b, rfl, af, j.below⟩
  · -- no
   have M := i.2 o; clear i
   refine wp_skip ?_
   refine ibn ?_
   refine thn ?_
   refine rgB f j [] [] [(8, i6 (w64 (b + 1)))] ?_; intro ay ah; clear f
   refine rd ?_
   exact ⟨w64 (b + 1), M.1, M.2, (ah.region (by kernel_rfl) (by kernel_rfl)).anyβ _ (by kernel_rfl), j.keep (List.Sublist.slnil)⟩
 · -- no
  have ai := h.2 l; clear h
  refine wp_exit ?_
  refine thx ?_
  refine thx ?_
  refine ibx ?_
  refine thn ?_
  refine sqB d c [] [] [(4, i6 (-1))] ?_; intro az aj; clear d
  refine wp_ret ?_
  refine ra1 aj (i6 (-1)) ?_
  exact ⟨-1, rfl, ai, c.below⟩

theorem mcontf_walk (u0 : List Message) (u1 : Message → Bool) (ao1 : Option Addr) (cap2 : Nat) (fid4 : Nat) (caps5 : Array Value) (Z : Fz) (w : World) (hs3 : SlR tyMessage Z ao1 cap2 u0) (hf6 : ∀ (Z1 : Fz) (w1 : World), Z.le Z1 → Z1.on w1 → ∀ (x0 : Message) (xao0 : Option Addr) (xcap0 : Nat), SlR tySignal Z1 xao0 xcap0 x0.Signals → Calls Try.prog fid4 (#[.agg #[i6 x0.ID, .bool x0.Long, str x0.Name, i6 x0.Size, i6 x0.Chooser, .slice xao0 x0.Signals.length xcap0]] ++ caps5) w1 fun e w2 => e = .returned (.bool (u1 x0)) ∧ Below w1.heap.size w1 w2) (hg7 : ∀ x w, Sem.run Try.prog (callFunc fid4 x) w = .ok (.enter fid4 x) w) (hZ : Z.on w) {K : Bool → Prop} (hp : mcontf_vc u0 u1 K) : Calls Try.prog 65 #[.slice ao1 u0.length cap2, .func (.func fid4) #[] caps5] w fun e w' => ∃ r : Bool, e = .returned (.bool r) ∧ K r ∧ Below w.heap.size w w' := by
 refine enter0 Try.func65 rfl rfl (by kernel_rfl) ?_; intro o c; have a := Mem.start w Z hZ; have j := Fz.le.refl Z
 have k := hp (hs3.small); clear hp
 refine sqB c a [] [] [] ?_; intro p d; clear c
 refine sqH ?_; intro l f
 refine bt d a 2 [] [] [(5, .slice ao1 u0.length cap2), (6, .func (.func fid4) #[] caps5)] ?_; intro q g; clear d
 refine ck g 46 #[.slice ao1 u0.length cap2, .func (.func fid4) #[] caps5] ?_
 refine (midxf_walk u0 u1 ao1 cap2 fid4 caps5 _ _ hs3 (fun Z1 w1 h1 h2 => hf6 Z1 w1 (j.trans h1) h2) hg7 a.fz k).mono ?_; rintro _ s ⟨b, rfl, m, hb⟩; refine ⟨_, rfl, ?_⟩; intro t h; have i := a.call hb; clear hb a g
 refine bt h i 2 [] [] [(4, .bool (decide (b ≥ 0)))] ?_; intro u n; clear h
 refine nlH (f _ _ ?_); clear f l
 refine wp_ret ?_
 refine ra1 n (.bool (decide (b ≥ 0))) ?_
 exact ⟨decide (b ≥ 0), rfl, m, i.below⟩

theorem req_walk (u0 : List Reading) (u1 : List Reading) (ao1 : Option Addr) (cap2 : Nat) (ao4 : Option Addr) (cap5 : Nat) (Z : Fz) (w : World) (hs3 : SlR tyReading Z ao1 cap2 u0) (hs6 : SlR tyReading Z ao4 cap5 u1) (hZ : Z.on w) {K : Bool → Prop} (hp : req_vc u0 u1 K) : Calls Try.prog 19 #[.slice ao1 u0.length cap2, .slice ao4 u1.length cap5] w fun e w' => ∃ r : Bool, e = .returned (.bool r) ∧ K r ∧ Below w.heap.size w w' := by
 refine enter0 Try.func19 rfl rfl (by kernel_rfl) ?_; intro a0 B; have f := Mem.start w Z hZ; have aE := Fz.le.refl Z
 have C := hp (hs3.small); clear hp
 have n := C (hs6.small); clear C
 refine sqB B f [] [] [] ?_; intro aF D; clear B
 refine wp_seq ?_
 refine sqB D f [] [] [(10, .bool ((u0.length : Int) != (u1.length : Int)))] ?_; intro aG i; clear D
 refine cd i (t := (u0.length : Int) != (u1.length : Int)) (by kernel_rfl) (fun u => ?_) (fun u => ?_)
 · -- yes
  have Y := n.1 u; clear n
  refine sqB i f [] [] [(4, .bool false)] ?_; intro aH aa; clear i
  refine wp_ret ?_
  refine thr ?_
  refine ra1 aa (.bool false) ?_
  exact ⟨false, rfl, Y, f.below⟩
 · -- no
  have ab := n.2 u; clear n
  refine wp_skip ?_
  refine thn ?_
  refine wp_seq ?_
  refine sqB i f [] [] [(12, i6 (u0.length : Int)), (13, i6 0)] ?_; intro E F; clear i
  refine wp_block ?_
  have G : Fr 26 [] [⟨0, [], .slice ao1 u0.length cap2⟩, ⟨1, [], .slice ao4 u1.length cap5⟩, ⟨12, [], i6 (u0.length : Int)⟩, ⟨13, [], i6 0⟩] E := F.region (by kernel_rfl) (by kernel_rfl); clear F
  have H : Fr 26 [] [⟨0, [], .slice ao1 u0.length cap2⟩, ⟨1, [], .slice ao4 u1.length cap5⟩, ⟨12, [], i6 (u0.length : Int)⟩, ⟨13, [], i6 0⟩] E := G.region (by kernel_rfl) (by kernel_rfl); clear G
  obtain ⟨ac, ad, ae, af⟩ := ab
  refine lp (ι := Int) (fun s => [⟨0, [], .slice ao1 u0.length cap2⟩, ⟨1, [], .slice ao4 u1.length cap5⟩, ⟨12, [], i6 (u0.length : Int)⟩, ⟨13, [], i6 s⟩]) (fun s => []) (fun s => Z) (fun s => ac s) (fun s => ad s) 0 ae (by exact H.region (by kernel_rfl) (by kernel_rfl)) (by exact f) ?_
  rintro d ag ah ai I J
  have L : Fr 26 [] [⟨0, [], .slice ao1 u0.length cap2⟩, ⟨1, [], .slice ao4 u1.length cap5⟩, ⟨12, [], i6 (u0.length : Int)⟩, ⟨13, [], i6 d⟩] ah := I; clear I H
  have h : Mem w.heap.size [] w Z [] Z ai := J; clear J f
  have o := af d ag
  refine sqB L h [] [] [(14, .bool (decide (d < (u0.length : Int))))] ?_; intro aI j; clear L
  refine wp_seq ?_
  refine cd j (t := decide (d < (u0.length : Int))) (by kernel_rfl) (fun v => ?_) (fun v => ?_)
  · -- yes
   have aj := o.1 v; clear o
   refine wp_skip ?_
   refine thn ?_
   refine wp_seq ?_
   refine wp_block ?_
   refine sqB j h [] [] [(5, i6 d)] ?_; intro ak M; clear j
   have N : Fr 26 [] [⟨0, [], .slice ao1 u0.length cap2⟩, ⟨1, [], .slice ao4 u1.length cap5⟩, ⟨5, [], i6 d⟩, ⟨12, [], i6 (u0.length : Int)⟩, ⟨13, [], i6 d⟩] ak := M.region (by kernel_rfl) (by kernel_rfl); clear M
   refine sqQH mixed (by kernel_rfl) h ?_; intro al O
   refine q1 N 16 (.slice ao1 u0.length cap2) ?_; intro aJ P; clear N
   refine q1 P 17 (i6 d) ?_; intro aK Q; clear P
   obtain ⟨am, R⟩ := aj
   refine qix Q (T := tyReading) (xs := u0) hs3 d am (k := .i64) (e := 30) (bytes := 32) (nog rfl _) rfl (by kernel_rfl) rfl (by kernel_rfl) (by kernel_rfl) (by kernel_rfl) ?_; intro aL aM an a aN ao ap aq x; clear Q
   have ar := R a ao; clear R
   obtain rfl : an = ((e30Me a) : List Value) := aq
   refine qst x (.agg (e30Me a).toArray) (nog rfl _) rfl (by kernel_rfl) (fun v81 hC => lza x hC.fz ap 0 (g := []) (m := 3) (vs := (e30Me a)) rfl (by kernel_rfl) (by kernel_rfl) (by kernel_rfl) (by kernel_rfl) rfl) ?_; intro aO S; clear x
   refine q1 S 20 (.slice ao4 u1.length cap5) ?_; intro aP U; clear S
   refine q1 U 21 (i6 d) ?_; intro aQ V; clear U
   obtain ⟨au, W⟩ := ar
   refine qix V (T := tyReading) (xs := u1) hs6 d au (k := .i64) (e := 30) (bytes := 32) (nog rfl _) rfl (by kernel_rfl) rfl (by kernel_rfl) (by kernel_rfl) (by kernel_rfl) ?_; intro aR aS av c aT aw ax ay y; clear V
   have p := W c aw; clear W
   obtain rfl : av = ((e30Me c) : List Value) := ay
   refine qst y (.agg (e30Me c).toArray) (nog rfl _) rfl (by kernel_rfl) (fun v103 hC => lza y hC.fz ax 0 (g := []) (m := 3) (vs := (e30Me c)) rfl (by kernel_rfl) (by kernel_rfl) (by kernel_rfl) (by kernel_rfl) rfl) ?_; intro aU z; clear y
   refine qst z (.bool (!((a.Name == c.Name) && ((a.Num == c.Num) && ((a.Den == c.Den) && true))))) (nog rfl _) rfl (by kernel_rfl) (fun v106 hC => nes_run z (g := []) (xs := (e30Me a).toArray) (ys := (e30Me c).toArray) (b := (a.Name == c.Name) && ((a.Num == c.Num) && ((a.Den == c.Den) && true))) rfl (by kernel_rfl) (by kernel_rfl) (by kernel_rfl) (by kernel_rfl) rfl) ?_; intro aV l; clear z
   refine qnl (O _ ?_); clear O al; intro aW q; clear h
   refine cd l (t := !((a.Name == c.Name) && ((a.Num == c.Num) && ((a.Den == c.Den) && true)))) (by kernel_rfl) (fun A => ?_) (fun A => ?_)
   · -- yes
    have az := p.1 A; clear p
    refine sqB l q [] [] [(4, .bool false)] ?_; intro aX aA; clear l
    refine wp_ret ?_
    refine ibr ?_
    refine thr ?_
    refine thr ?_
    refine ibr ?_
    refine thr ?_
    refine ra1 aA (.bool false) ?_
    exact ⟨false, rfl, az, q.below⟩
   · -- no
    have X := p.2 A; clear p
    refine wp_skip ?_
    refine ibn ?_
    refine thn ?_
    refine rgB l q [] [] [(13, i6 (w64 (d + 1)))] ?_; intro aY aB; clear l
    refine rd ?_
    exact ⟨w64 (d + 1), X.1, X.2, (aB.region (by kernel_rfl) (by kernel_rfl)).anyβ _ (by kernel_rfl), q.keep (List.Sublist.slnil)⟩
  · -- no
   have aC := o.2 v; clear o
   refine wp_exit ?_
   refine thx ?_
   refine thx ?_
   refine ibx ?_
   refine thn ?_
   refine sqB j h [] [] [(4, .bool true)] ?_; intro aZ aD; clear j
   refine wp_ret ?_
   refine ra1 aD (.bool true) ?_
   exact ⟨true, rfl, aC, h.below⟩

theorem eng1_walk (u0 : List UInt8) (u1 : Int) (u2 : Int)  (Z : Fz) (w : World)  (hZ : Z.on w) {K : Signal → Prop} (hp : eng1_vc u0 u1 u2 K) : Calls Try.prog 64 #[str u0, i6 u1, i6 u2] w fun e w' => ∃ r : Signal, e = .returned (.agg #[str r.Name, i6 r.Start, i6 r.Size, .bool r.Back, .bool r.Signed, i6 r.Mul, i6 r.Div, i6 r.Add, i6 r.Key]) ∧ K r ∧ Below w.heap.size w w' := by
 refine enter0 Try.func64 rfl rfl (by kernel_rfl) ?_; intro q f; have g := Mem.start w Z hZ; have s := Fz.le.refl Z
 refine sqH ?_; intro n h
 refine nw f g pb [str [], i6 0, i6 0, .bool false, .bool false, i6 0, i6 0, i6 0, i6 0] 23 ?_; intro a t u i c; clear f g
 refine nlH (h _ _ ?_); clear h n
 refine sqH ?_; intro o j
 refine bt i c 4 [] [] [(10, .agg #[str u0, i6 u1, i6 8, .bool false, .bool false, i6 1, i6 1, i6 0, i6 u2])] ?_; intro x d; clear i
 refine sx d c 0 [str u0, i6 u1, i6 8, .bool false, .bool false, i6 1, i6 1, i6 0, i6 u2] 0 ?_; intro p l; clear c
 have m : Mem w.heap.size [] w Z [.row a [str u0, i6 u1, i6 8, .bool false, .bool false, i6 1, i6 1, i6 0, i6 u2] 23] Z p := l; clear l
 refine nlH (j _ _ ?_); clear j o
 refine wp_ret ?_
 refine rt (fn := Try.f64) (v := .agg #[str u0, i6 u1, i6 8, .bool false, .bool false, i6 1, i6 1, i6 0, i6 u2]) d (re1c d (fn := Try.f64) rfl (ad := ⟨a, 0, none⟩) (by kernel_rfl) (loadVar_run m 0 (b := a) (k := 9) (vs := [str u0, i6 u1, i6 8, .bool false, .bool false, i6 1, i6 1, i6 0, i6 u2]) (ty := 23) rfl (by kernel_rfl) (by kernel_rfl)) ) ?_
 exact ⟨(⟨u0, u1, 8, false, false, 1, 1, 0, u2⟩ : Signal), rfl, hp, m.below⟩
theorem eng1_fun (u0 : List UInt8) (u1 : Int) (u2 : Int)  (Z : Fz) (w : World)  (hZ : Z.on w) : Calls Try.prog 64 #[str u0, i6 u1, i6 u2] w fun e w' => e = .returned (.agg #[str (eng1 u0 u1 u2).Name, i6 (eng1 u0 u1 u2).Start, i6 (eng1 u0 u1 u2).Size, .bool (eng1 u0 u1 u2).Back, .bool (eng1 u0 u1 u2).Signed, i6 (eng1 u0 u1 u2).Mul, i6 (eng1 u0 u1 u2).Div, i6 (eng1 u0 u1 u2).Add, i6 (eng1 u0 u1 u2).Key]) ∧ Below w.heap.size w w' :=
  (eng1_walk u0 u1 u2  Z w  hZ (eng1_ok u0 u1 u2)).mono fun _ _ ⟨r, he, hk, hb⟩ => ⟨by subst hk; exact he, hb⟩

theorem engine_walk   (Z : Fz) (w : World)  (hZ : Z.on w) {K : Message → Prop} (hp : engine_vc  K) : Calls Try.prog 42 #[] w fun e w' => ∃ (r : Message) (ao1001 : Option Addr) (cap1002 : Nat) (Z' : Fz), e = .returned (.agg #[i6 r.ID, .bool r.Long, str r.Name, i6 r.Size, i6 r.Chooser, .slice ao1001 r.Signals.length cap1002]) ∧ K r ∧ SlR tySignal Z' ao1001 cap1002 r.Signals ∧ Mem w.heap.size [] w Z [] Z' w' := by
 refine enter0 Try.func42 rfl rfl (by kernel_rfl) ?_; intro P j; have l := Mem.start w Z hZ; have m := Fz.le.refl Z
 refine sqH ?_; intro J n
 refine nw j l pb [i6 0, .bool false, str [], i6 0, i6 0, .slice none 0 0] 51 ?_; intro c Q R o d; clear j l
 refine nlH (n _ _ ?_); clear n J
 refine sqB o d [] [] [(1, .func (.func 64) #[] #[])] ?_; intro S p; clear o
 refine sqH ?_; intro L q
 refine s1 p 2 (.func (.func 64) #[] #[]) ?_; intro U s; clear p
 refine fc s d (eng1_fun ([119, 104, 105, 99, 104] : List UInt8) 0 (-1) _ _ d.fz) ?_; intro V W t f; clear s d
 refine s1 t 4 (.func (.func 64) #[] #[]) ?_; intro X u; clear t
 refine fc u f (eng1_fun ([104, 101, 97, 116] : List UInt8) 8 0 _ _ f.fz) ?_; intro Y aa y g; clear u f
 refine s1 y 6 (.func (.func 64) #[] #[]) ?_; intro ab z; clear y
 refine fc z g (eng1_fun ([108, 111, 97, 100] : List UInt8) 8 1 _ _ g.fz) ?_; intro ac ae A B; clear z g
 refine nw A B (fun b => .slice (sm b) 3 3) [str (eng1 ([119, 104, 105, 99, 104] : List UInt8) 0 (-1)).Name, i6 (eng1 ([119, 104, 105, 99, 104] : List UInt8) 0 (-1)).Start, i6 (eng1 ([119, 104, 105, 99, 104] : List UInt8) 0 (-1)).Size, .bool (eng1 ([119, 104, 105, 99, 104] : List UInt8) 0 (-1)).Back, .bool (eng1 ([119, 104, 105, 99, 104] : List UInt8) 0 (-1)).Signed, i6 (eng1 ([119, 104, 105, 99, 104] : List UInt8) 0 (-1)).Mul, i6 (eng1 ([119, 104, 105, 99, 104] : List UInt8) 0 (-1)).Div, i6 (eng1 ([119, 104, 105, 99, 104] : List UInt8) 0 (-1)).Add, i6 (eng1 ([119, 104, 105, 99, 104] : List UInt8) 0 (-1)).Key, str (eng1 ([104, 101, 97, 116] : List UInt8) 8 0).Name, i6 (eng1 ([104, 101, 97, 116] : List UInt8) 8 0).Start, i6 (eng1 ([104, 101, 97, 116] : List UInt8) 8 0).Size, .bool (eng1 ([104, 101, 97, 116] : List UInt8) 8 0).Back, .bool (eng1 ([104, 101, 97, 116] : List UInt8) 8 0).Signed, i6 (eng1 ([104, 101, 97, 116] : List UInt8) 8 0).Mul, i6 (eng1 ([104, 101, 97, 116] : List UInt8) 8 0).Div, i6 (eng1 ([104, 101, 97, 116] : List UInt8) 8 0).Add, i6 (eng1 ([104, 101, 97, 116] : List UInt8) 8 0).Key, str (eng1 ([108, 111, 97, 100] : List UInt8) 8 1).Name, i6 (eng1 ([108, 111, 97, 100] : List UInt8) 8 1).Start, i6 (eng1 ([108, 111, 97, 100] : List UInt8) 8 1).Size, .bool (eng1 ([108, 111, 97, 100] : List UInt8) 8 1).Back, .bool (eng1 ([108, 111, 97, 100] : List UInt8) 8 1).Signed, i6 (eng1 ([108, 111, 97, 100] : List UInt8) 8 1).Mul, i6 (eng1 ([108, 111, 97, 100] : List UInt8) 8 1).Div, i6 (eng1 ([108, 111, 97, 100] : List UInt8) 8 1).Add, i6 (eng1 ([108, 111, 97, 100] : List UInt8) 8 1).Key] 23 ?_; intro a af ag C D; clear A B
 refine s1 C 9 (.agg #[i6 100, .bool false, str ([101, 110, 103, 105, 110, 101] : List UInt8), i6 2, i6 0, .slice (sm a) 3 3]) ?_; intro ah h; clear C
 refine sx h D 1 [i6 100, .bool false, str ([101, 110, 103, 105, 110, 101] : List UInt8), i6 2, i6 0, .slice (sm a) 3 3] 0 ?_; intro i E; clear D
 have F : Mem w.heap.size [] w Z [.row a [str (eng1 ([119, 104, 105, 99, 104] : List UInt8) 0 (-1)).Name, i6 (eng1 ([119, 104, 105, 99, 104] : List UInt8) 0 (-1)).Start, i6 (eng1 ([119, 104, 105, 99, 104] : List UInt8) 0 (-1)).Size, .bool (eng1 ([119, 104, 105, 99, 104] : List UInt8) 0 (-1)).Back, .bool (eng1 ([119, 104, 105, 99, 104] : List UInt8) 0 (-1)).Signed, i6 (eng1 ([119, 104, 105, 99, 104] : List UInt8) 0 (-1)).Mul, i6 (eng1 ([119, 104, 105, 99, 104] : List UInt8) 0 (-1)).Div, i6 (eng1 ([119, 104, 105, 99, 104] : List UInt8) 0 (-1)).Add, i6 (eng1 ([119, 104, 105, 99, 104] : List UInt8) 0 (-1)).Key, str (eng1 ([104, 101, 97, 116] : List UInt8) 8 0).Name, i6 (eng1 ([104, 101, 97, 116] : List UInt8) 8 0).Start, i6 (eng1 ([104, 101, 97, 116] : List UInt8) 8 0).Size, .bool (eng1 ([104, 101, 97, 116] : List UInt8) 8 0).Back, .bool (eng1 ([104, 101, 97, 116] : List UInt8) 8 0).Signed, i6 (eng1 ([104, 101, 97, 116] : List UInt8) 8 0).Mul, i6 (eng1 ([104, 101, 97, 116] : List UInt8) 8 0).Div, i6 (eng1 ([104, 101, 97, 116] : List UInt8) 8 0).Add, i6 (eng1 ([104, 101, 97, 116] : List UInt8) 8 0).Key, str (eng1 ([108, 111, 97, 100] : List UInt8) 8 1).Name, i6 (eng1 ([108, 111, 97, 100] : List UInt8) 8 1).Start, i6 (eng1 ([108, 111, 97, 100] : List UInt8) 8 1).Size, .bool (eng1 ([108, 111, 97, 100] : List UInt8) 8 1).Back, .bool (eng1 ([108, 111, 97, 100] : List UInt8) 8 1).Signed, i6 (eng1 ([108, 111, 97, 100] : List UInt8) 8 1).Mul, i6 (eng1 ([108, 111, 97, 100] : List UInt8) 8 1).Div, i6 (eng1 ([108, 111, 97, 100] : List UInt8) 8 1).Add, i6 (eng1 ([108, 111, 97, 100] : List UInt8) 8 1).Key] 23, .row c [i6 100, .bool false, str ([101, 110, 103, 105, 110, 101] : List UInt8), i6 2, i6 0, .slice (sm a) 3 3] 51] Z i := E; clear E
 refine nlH (q _ _ ?_); clear q L
 refine wp_ret ?_
 have M : Mem w.heap.size [] w Z [.own tySignal 23 (sm a) 3 ([(eng1 ([119, 104, 105, 99, 104] : List UInt8) 0 (-1)), (eng1 ([104, 101, 97, 116] : List UInt8) 8 0), (eng1 ([108, 111, 97, 100] : List UInt8) 8 1)] : List Signal), .row c [i6 100, .bool false, str ([101, 110, 103, 105, 110, 101] : List UInt8), i6 2, i6 0, .slice (sm a) 3 3] 51] Z i := F.rowOwn (T := tySignal) (xs := ([(eng1 ([119, 104, 105, 99, 104] : List UInt8) 0 (-1)), (eng1 ([104, 101, 97, 116] : List UInt8) 8 0), (eng1 ([108, 111, 97, 100] : List UInt8) 8 1)] : List Signal)) 0 rfl (by decide) (by show 3 ≤ lim; decide) ((RepAll.one (T := tySignal) (x := (eng1 ([119, 104, 105, 99, 104] : List UInt8) 0 (-1))) rfl).append ((RepAll.one (T := tySignal) (x := (eng1 ([104, 101, 97, 116] : List UInt8) 8 0)) rfl).append (RepAll.one (T := tySignal) (x := (eng1 ([108, 111, 97, 100] : List UInt8) 8 1)) rfl))); clear F
 obtain ⟨G, N, H, O⟩ := M.freeze 0 rfl
 replace m := Fz.le.trans m N
 have I : Mem w.heap.size [] w Z [.row c [i6 100, .bool false, str ([101, 110, 103, 105, 110, 101] : List UInt8), i6 2, i6 0, .slice (sm a) 3 3] 51] G i := H; clear H
 refine rt (fn := Try.f42) (v := .agg #[i6 100, .bool false, str ([101, 110, 103, 105, 110, 101] : List UInt8), i6 2, i6 0, .slice (sm a) ([(eng1 ([119, 104, 105, 99, 104] : List UInt8) 0 (-1)), (eng1 ([104, 101, 97, 116] : List UInt8) 8 0), (eng1 ([108, 111, 97, 100] : List UInt8) 8 1)] : List Signal).length 3]) h (re1c h (fn := Try.f42) rfl (ad := ⟨c, 0, none⟩) (by kernel_rfl) (loadVar_run I 0 (b := c) (k := 6) (vs := [i6 100, .bool false, str ([101, 110, 103, 105, 110, 101] : List UInt8), i6 2, i6 0, .slice (sm a) 3 3]) (ty := 51) rfl (by kernel_rfl) (by kernel_rfl)) ) ?_
 exact ⟨(⟨100, false, ([101, 110, 103, 105, 110, 101] : List UInt8), 2, 0, ([(eng1 ([119, 104, 105, 99, 104] : List UInt8) 0 (-1)), (eng1 ([104, 101, 97, 116] : List UInt8) 8 0), (eng1 ([108, 111, 97, 100] : List UInt8) 8 1)] : List Signal)⟩ : Message), (sm a), 3, G, rfl, hp, O, I.keep (List.Sublist.cons _ (List.Sublist.slnil))⟩
theorem engine_fun   (Z : Fz) (w : World)  (hZ : Z.on w) : Calls Try.prog 42 #[] w fun e w' => ∃ (ao1001 : Option Addr) (cap1002 : Nat) (Z' : Fz), e = .returned (.agg #[i6 engine.ID, .bool engine.Long, str engine.Name, i6 engine.Size, i6 engine.Chooser, .slice ao1001 engine.Signals.length cap1002]) ∧ SlR tySignal Z' ao1001 cap1002 engine.Signals ∧ Mem w.heap.size [] w Z [] Z' w' :=
  (engine_walk   Z w  hZ (engine_ok )).mono fun _ _ ⟨r, h0, h1, h2, he, hk, f0, hm⟩ => by subst hk; exact ⟨h0, h1, h2, he, f0, hm⟩

end Go.Proofs.Ytdndfbamhnchfaa
set_option linter.unusedVariables false
set_option linter.unusedSimpArgs false
set_option maxRecDepth 100000
set_option maxHeartbeats 0
namespace Go.Proofs.Ytdndfbamhnchfaa
open Go.Sy Go.RowKit
abbrev e53Mf (X : Frame) (A0 : Option Addr) (C0 : Nat) : List Value := [i6 X.ID, .bool X.Long, .bool X.Fast, .bool X.Remote, i6 X.Size, .slice A0 X.Data.length C0]
abbrev e51Mf (X : Message) (A0 : Option Addr) (C0 : Nat) : List Value := [i6 X.ID, .bool X.Long, str X.Name, i6 X.Size, i6 X.Chooser, .slice A0 X.Signals.length C0]
theorem midxf_fun (u0 : List Message) (u1 : Message → Bool) (ao1 : Option Addr) (cap2 : Nat) (fid4 : Nat) (caps5 : Array Value) (Z : Fz) (w : World) (hs3 : SlR tyMessage Z ao1 cap2 u0) (hf6 : ∀ (Z1 : Fz) (w1 : World), Z.le Z1 → Z1.on w1 → ∀ (x0 : Message) (xao0 : Option Addr) (xcap0 : Nat), SlR tySignal Z1 xao0 xcap0 x0.Signals → Calls Try.prog fid4 (#[.agg #[i6 x0.ID, .bool x0.Long, str x0.Name, i6 x0.Size, i6 x0.Chooser, .slice xao0 x0.Signals.length xcap0]] ++ caps5) w1 fun e w2 => e = .returned (.bool (u1 x0)) ∧ Below w1.heap.size w1 w2) (hg7 : ∀ x w, Sem.run Try.prog (callFunc fid4 x) w = .ok (.enter fid4 x) w) (hZ : Z.on w) : Calls Try.prog 46 #[.slice ao1 u0.length cap2, .func (.func fid4) #[] caps5] w fun e w' => e = .returned (i6 (midxfS u0 u1)) ∧ Below w.heap.size w w' :=
  (midxf_walk u0 u1 ao1 cap2 fid4 caps5 Z w hs3 hf6 hg7 hZ (midxf_ok2 u0 u1)).mono fun _ _ ⟨r, he, hk, hb⟩ => ⟨by subst hk; exact he, hb⟩

theorem mcontf_fun (u0 : List Message) (u1 : Message → Bool) (ao1 : Option Addr) (cap2 : Nat) (fid4 : Nat) (caps5 : Array Value) (Z : Fz) (w : World) (hs3 : SlR tyMessage Z ao1 cap2 u0) (hf6 : ∀ (Z1 : Fz) (w1 : World), Z.le Z1 → Z1.on w1 → ∀ (x0 : Message) (xao0 : Option Addr) (xcap0 : Nat), SlR tySignal Z1 xao0 xcap0 x0.Signals → Calls Try.prog fid4 (#[.agg #[i6 x0.ID, .bool x0.Long, str x0.Name, i6 x0.Size, i6 x0.Chooser, .slice xao0 x0.Signals.length xcap0]] ++ caps5) w1 fun e w2 => e = .returned (.bool (u1 x0)) ∧ Below w1.heap.size w1 w2) (hg7 : ∀ x w, Sem.run Try.prog (callFunc fid4 x) w = .ok (.enter fid4 x) w) (hZ : Z.on w) : Calls Try.prog 65 #[.slice ao1 u0.length cap2, .func (.func fid4) #[] caps5] w fun e w' => e = .returned (.bool (mcontfS u0 u1)) ∧ Below w.heap.size w w' :=
  (mcontf_walk u0 u1 ao1 cap2 fid4 caps5 Z w hs3 hf6 hg7 hZ (mcontf_ok u0 u1)).mono fun _ _ ⟨r, he, hk, hb⟩ => ⟨by subst hk; exact he, hb⟩

theorem req_fun (u0 : List Reading) (u1 : List Reading) (ao1 : Option Addr) (cap2 : Nat) (ao4 : Option Addr) (cap5 : Nat) (Z : Fz) (w : World) (hs3 : SlR tyReading Z ao1 cap2 u0) (hs6 : SlR tyReading Z ao4 cap5 u1) (hZ : Z.on w) : Calls Try.prog 19 #[.slice ao1 u0.length cap2, .slice ao4 u1.length cap5] w fun e w' => e = .returned (.bool (reqS u0 u1)) ∧ Below w.heap.size w w' :=
  (req_walk u0 u1 ao1 cap2 ao4 cap5 Z w hs3 hs6 hZ (req_ok u0 u1)).mono fun _ _ ⟨r, he, hk, hb⟩ => ⟨by subst hk; exact he, hb⟩

theorem mchall_walk (u0 : List Message) (ao1 : Option Addr) (cap2 : Nat) (Z : Fz) (w : World) (hs3 : SlR tyMessage Z ao1 cap2 u0) (hZ : Z.on w) {K : Int → Prop} (hp : mchall_vc u0 K) : Calls Try.prog 45 #[.slice ao1 u0.length cap2] w fun e w' => ∃ r : Int, e = .returned (i6 r) ∧ K r ∧ Below w.heap.size w w' := by
 refine enter0 Try.func45 rfl rfl (by kernel_rfl) ?_; intro a0 M; have c := Mem.start w Z hZ; have i := Fz.le.refl Z
 have u := hp (hs3.small); clear hp
 refine sqB M c [] [] [] ?_; intro a6 N; clear M
 refine wp_seq ?_
 refine sqB N c [] [] [(8, .bool (decide ((u0.length : Int) > 20)))] ?_; intro aZ j; clear N
 refine cd j (t := decide ((u0.length : Int) > 20)) (by kernel_rfl) (fun D => ?_) (fun D => ?_)
 · -- yes
  have au := u.1 D; clear u
  refine sqB j c [] [] [(2, i6 2)] ?_; intro a1 av; clear j
  refine wp_ret ?_
  refine thr ?_
  refine ra1 av (i6 2) ?_
  exact ⟨2, rfl, au, c.below⟩
 · -- no
  have aw := u.2 D; clear u
  refine wp_skip ?_
  refine thn ?_
  refine wp_seq ?_
  refine sqB j c [] [] [(9, .slice ao1 u0.length cap2), (10, i6 (u0.length : Int)), (11, i6 0)] ?_; intro O P; clear j
  refine wp_block ?_
  have Q : Fr 27 [] [⟨0, [], .slice ao1 u0.length cap2⟩, ⟨9, [], .slice ao1 u0.length cap2⟩, ⟨10, [], i6 (u0.length : Int)⟩, ⟨11, [], i6 0⟩] O := P.region (by kernel_rfl) (by kernel_rfl); clear P
  have R : Fr 27 [] [⟨0, [], .slice ao1 u0.length cap2⟩, ⟨9, [], .slice ao1 u0.length cap2⟩, ⟨10, [], i6 (u0.length : Int)⟩, ⟨11, [], i6 0⟩] O := Q.region (by kernel_rfl) (by kernel_rfl); clear Q
  obtain ⟨ax, ay, az, aA⟩ := aw
  have a2 := i
  refine lp (ι := Int × Fz) (fun s => [⟨0, [], .slice ao1 u0.length cap2⟩, ⟨9, [], .slice ao1 u0.length cap2⟩, ⟨10, [], i6 (u0.length : Int)⟩, ⟨11, [], i6 s.1⟩]) (fun s => []) (fun s => s.2) (fun s => ax s.1 ∧ Fz.le Z s.2) (fun s => ay s.1) ⟨0, Z⟩ ⟨az, Fz.le.refl _⟩ (by exact R.region (by kernel_rfl) (by kernel_rfl)) (by exact c) ?_
  rintro ⟨b, S⟩ ⟨aB, l⟩ aC aD U V
  have W : Fr 27 [] [⟨0, [], .slice ao1 u0.length cap2⟩, ⟨9, [], .slice ao1 u0.length cap2⟩, ⟨10, [], i6 (u0.length : Int)⟩, ⟨11, [], i6 b⟩] aC := U; clear U R
  have d : Mem w.heap.size [] w Z [] S aD := V; clear V c
  have v := aA b aB
  replace i := Fz.le.trans i l
  have x := hs3.mono l
  refine sqB W d [] [] [(12, .bool (decide (b < (u0.length : Int))))] ?_; intro a3 m; clear W
  refine wp_seq ?_
  refine cd m (t := decide (b < (u0.length : Int))) (by kernel_rfl) (fun E => ?_) (fun E => ?_)
  · -- yes
   have aE := v.1 E; clear v
   refine wp_skip ?_
   refine thn ?_
   refine wp_seq ?_
   refine wp_block ?_
   refine sqH ?_; intro aF X
   refine s1 m 13 (i6 b) ?_; intro a4 Y; clear m
   obtain ⟨aG, aa⟩ := aE
   refine ix Y (T := tyMessage) (xs := u0) x b aG (k := .i64) (e := 51) (bytes := 72) (nog rfl _) rfl (by kernel_rfl) rfl (by kernel_rfl) (by kernel_rfl) (by kernel_rfl) ?_; intro a5 a7 a8 a a9 aH F aI ab; clear Y
   have ac := aa a aH; clear aa
   obtain ⟨f, g, rfl, n⟩ := aI
   have y := ac (n.small); clear ac
   refine z2 ab d 15 F 0 6 (e51Mf a f g) rfl ?_; intro ba ad; clear ab
   refine nw ad d pb [i6 0, .bool false, str [], i6 0, i6 0, .slice none 0 0] 51 ?_; intro z bb bc ae af; clear ad d
   refine s1 ae 3 (i6 b) ?_; intro bd G; clear ae
   refine sx G af 0 (e51Mf a f g) 0 ?_; intro aJ ag; clear af
   have A : Mem w.heap.size [] w Z [.row z (e51Mf a f g) 51] S aJ := ag; clear ag
   refine nlH (X _ _ ?_); clear X aF
   refine wp_seq ?_
   refine sqH ?_; intro aK ah
   refine l2 G A 16 0 0 6 (e51Mf a f g) rfl rfl ?_; intro be ai; clear G
   refine fc ai A (mcheck_fun a f g _ _ n A.fz) ?_; intro bf aL aj o; clear ai A
   refine s1 aj 5 (i6 (mcheckS a)) ?_; intro bg ak; clear aj
   refine nlH (ah _ _ ?_); clear ah aK
   refine sqB ak o [] [] [(19, .bool ((mcheckS a) != 0))] ?_; intro bh p; clear ak
   refine cd p (t := (mcheckS a) != 0) (by kernel_rfl) (fun H => ?_) (fun H => ?_)
   · -- yes
    have aM := y.1 H; clear y
    refine sqB p o [] [] [(2, i6 (mcheckS a))] ?_; intro bi aN; clear p
    refine wp_ret ?_
    refine thr ?_
    refine ibr ?_
    refine thr ?_
    refine thr ?_
    refine ibr ?_
    refine thr ?_
    refine ra1 aN (i6 (mcheckS a)) ?_
    exact ⟨(mcheckS a), rfl, aM, o.below⟩
   · -- no
    have aO := y.2 H; clear y
    refine wp_skip ?_
    refine thn ?_
    refine sqH ?_; intro aP al
    refine bt p o 2 [] [] [(21, .slice ao1 u0.length cap2), (22, i6 b)] ?_; intro bj am; clear p
    obtain ⟨aQ, B⟩ := aO
    refine slH am (T := tyMessage) (xs := u0) x b aQ (k' := .i64) (e := 51) (bytes := 72) (nog rfl _) rfl (by kernel_rfl) rfl (by kernel_rfl) (by kernel_rfl) (by kernel_rfl) ?_; intro aR aS bk bl I an; clear am
    refine s1 an 24 (.func (.func 66) #[] #[pt z 0]) ?_; intro bm ao; clear an
    obtain ⟨ap, h, aq, aT⟩ := o.freezeRow 0 rfl
    replace x := x.mono h
    replace l := l.mono h
    replace n := n.mono h
    replace F := F.mono h
    replace I := I.mono h
    replace i := Fz.le.trans i h
    have J : Mem w.heap.size [] w Z [] ap aL := aq; clear aq
    refine fc ao J (mcontf_fun (u0.take b.toNat) (fun x0 => mca1 x0 a) aR aS 66 #[pt z 0] _ _ I (fun Z1 w1 h1 h2 x0 m0 n0 s0 => mca1_fun x0 a m0 n0 z 0 f g Z1 w1 s0 (aT.mono h1) (SlR.mono n h1) h2) (fun _ _ => by kernel_rfl) J.fz) ?_; intro bn bo q C; clear ao J
    refine nlH (al _ _ ?_); clear al aP
    refine cd q (t := (mcontfS (u0.take b.toNat) (fun x0 => mca1 x0 a))) (by kernel_rfl) (fun L => ?_) (fun L => ?_)
    · -- yes
     have aU := B.1 L; clear B
     refine sqB q C [] [] [(2, i6 9)] ?_; intro bp aV; clear q
     refine wp_ret ?_
     refine ibr ?_
     refine thr ?_
     refine thr ?_
     refine ibr ?_
     refine thr ?_
     refine ra1 aV (i6 9) ?_
     exact ⟨9, rfl, aU, C.below⟩
    · -- no
     have ar := B.2 L; clear B
     refine wp_skip ?_
     refine ibn ?_
     refine thn ?_
     refine rgB q C [] [] [(11, i6 (w64 (b + 1)))] ?_; intro bq aW; clear q
     refine rd ?_
     exact ⟨⟨w64 (b + 1), ap⟩, ⟨ar.1, l⟩, ar.2, (aW.region (by kernel_rfl) (by kernel_rfl)).anyβ _ (by kernel_rfl), C.keep (List.Sublist.slnil)⟩
  · -- no
   have aX := v.2 E; clear v
   refine wp_exit ?_
   refine thx ?_
   refine thx ?_
   refine ibx ?_
   refine thn ?_
   refine sqB m d [] [] [(2, i6 0)] ?_; intro br aY; clear m
   refine wp_ret ?_
   refine ra1 aY (i6 0) ?_
   exact ⟨0, rfl, aX, d.below⟩

theorem meant_walk   (Z : Fz) (w : World)  (hZ : Z.on w) {K : Bool → Prop} (hp : meant_vc  K) : Calls Try.prog 17 #[] w fun e w' => ∃ r : Bool, e = .returned (.bool r) ∧ K r ∧ Below w.heap.size w w' := by
 refine enter0 Try.func17 rfl rfl (by kernel_rfl) ?_; intro a0 ad; have C := Mem.start w Z hZ; have a := Fz.le.refl Z
 refine sqB ad C [] [] [] ?_; intro a2 ae; clear ad
 refine sqH ?_; intro a4 af
 refine ck ae 42 #[] ?_
 refine (engine_fun  _ _ C.fz).mono ?_; rintro _ a5 ⟨ag, ah, ai, rfl, f, hm⟩; refine ⟨_, rfl, ?_⟩; intro a6 aj; have ak := C.callZ hm; have a7 := hm.ext.le; clear hm C ae
 replace a := Fz.le.trans a a7
 have al : Mem w.heap.size [] w Z [] ai a5 := ak; clear ak
 have a8 := hp (f.small); clear hp
 refine nw aj al (fun b => .slice (sm b) 2 2) [y8 1, y8 7] 5 ?_; intro D bv am an ao; clear aj al
 refine s1 an 8 (.agg #[i6 100, .bool false, .bool false, .bool false, i6 0, .slice (sm D) 2 2]) ?_; intro bw ap; clear an
 have a9 : Mem w.heap.size [] w Z [.own t8 5 (sm D) 2 ([1, 7] : List Int)] ai am := ao.rowOwn (T := t8) (xs := ([1, 7] : List Int)) 0 rfl (by decide) (by show 2 ≤ lim; decide) ((RepAll.one (T := t8) (x := 1) rfl).append (RepAll.one (T := t8) (x := 7) rfl)); clear ao
 obtain ⟨ba, aq, ar, g⟩ := a9.freeze 0 rfl
 replace f := f.mono aq
 replace a := Fz.le.trans a aq
 have J : Mem w.heap.size [] w Z [] ba am := ar; clear ar
 obtain ⟨bb, au⟩ := a8
 refine ck ap 16 #[.agg (e51Mf engine ag ah).toArray, .agg #[i6 100, .bool false, .bool false, .bool false, i6 0, .slice (sm D) ([1, 7] : List Int).length 2]] ?_
 refine (mread_fun engine (⟨100, false, false, false, 0, ([1, 7] : List Int)⟩ : Frame) bb ag ah (sm D) 2 _ _ f g J.fz).mono ?_; rintro _ bc ⟨k, l, bd, rfl, hm⟩; refine ⟨_, rfl, ?_⟩; intro bx av; have aw := J.callZ hm; have L := hm.ext.le; clear hm J ap
 replace f := f.mono L
 replace g := g.mono L
 replace a := Fz.le.trans a L
 have u : Mem w.heap.size [] w Z [.own tyReading 30 k l (readS engine (⟨100, false, false, false, 0, ([1, 7] : List Int)⟩ : Frame)).1] bd bc := aw; clear aw
 have ax := au (u.ownSmall 0 rfl); clear au
 refine bt av u 5 [] [] [(1, .slice k (readS engine (⟨100, false, false, false, 0, ([1, 7] : List Int)⟩ : Frame)).1.length l), (2, i6 (readS engine (⟨100, false, false, false, 0, ([1, 7] : List Int)⟩ : Frame)).2)] ?_; intro bz ay; clear av
 refine nlH (af _ _ ?_); clear af a4
 refine sqH ?_; intro be az
 refine ck ay 42 #[] ?_
 refine (engine_fun  _ _ u.fz).mono ?_; rintro _ aA ⟨aB, aC, bf, rfl, h, hm⟩; refine ⟨_, rfl, ?_⟩; intro bA aD; have aE := u.callZ hm; have M := hm.ext.le; clear hm u ay
 replace f := f.mono M
 replace g := g.mono M
 replace a := Fz.le.trans a M
 have bg : Mem w.heap.size [] w Z [.own tyReading 30 k l (readS engine (⟨100, false, false, false, 0, ([1, 7] : List Int)⟩ : Frame)).1] bf aA := aE; clear aE
 have aF := ax (h.small); clear ax
 refine s1 aD 14 (.slice k (readS engine (⟨100, false, false, false, 0, ([1, 7] : List Int)⟩ : Frame)).1.length l) ?_; intro bB aG; clear aD
 obtain ⟨bh, E, aH, m⟩ := bg.freeze 0 rfl
 replace f := f.mono E
 replace g := g.mono E
 replace h := h.mono E
 replace a := Fz.le.trans a E
 have N : Mem w.heap.size [] w Z [] bh aA := aH; clear aH
 refine ck aG 18 #[.agg (e51Mf engine aB aC).toArray, .slice k (readS engine (⟨100, false, false, false, 0, ([1, 7] : List Int)⟩ : Frame)).1.length l] ?_
 refine (mwrite_fun engine (readS engine (⟨100, false, false, false, 0, ([1, 7] : List Int)⟩ : Frame)).1 aB aC k l _ _ h m N.fz).mono ?_; rintro _ bi ⟨i, j, O, rfl, o, hm⟩; refine ⟨_, rfl, ?_⟩; intro bC aI; have aJ := N.callZ hm; have y := hm.ext.le; clear hm N aG
 replace f := f.mono y
 replace g := g.mono y
 replace h := h.mono y
 replace m := m.mono y
 replace a := Fz.le.trans a y
 have P : Mem w.heap.size [] w Z [] O bi := aJ; clear aJ
 have F := aF (o.small); clear aF
 refine bt aI P 3 [] [] [(16, .agg (e53Mf ((writeS engine (readS engine (⟨100, false, false, false, 0, ([1, 7] : List Int)⟩ : Frame)).1).1) i j).toArray), (17, i6 (writeS engine (readS engine (⟨100, false, false, false, 0, ([1, 7] : List Int)⟩ : Frame)).1).2)] ?_; intro bD aK; clear aI
 refine nw aK P pb [i6 0, .bool false, .bool false, .bool false, i6 0, .slice none 0 0] 53 ?_; intro z bE bF Q aL; clear aK P
 refine sx Q aL 0 (e53Mf ((writeS engine (readS engine (⟨100, false, false, false, 0, ([1, 7] : List Int)⟩ : Frame)).1).1) i j) 0 ?_; intro bj aM; clear aL
 refine s1 Q 4 (i6 (writeS engine (readS engine (⟨100, false, false, false, 0, ([1, 7] : List Int)⟩ : Frame)).1).2) ?_; intro bG aN; clear Q
 have p : Mem w.heap.size [] w Z [.row z (e53Mf ((writeS engine (readS engine (⟨100, false, false, false, 0, ([1, 7] : List Int)⟩ : Frame)).1).1) i j) 53] O bj := aM; clear aM
 refine nlH (az _ _ ?_); clear az be
 refine sqH ?_; intro R q
 refine bt aN p 7 [] [] [(24, .bool (((readS engine (⟨100, false, false, false, 0, ([1, 7] : List Int)⟩ : Frame)).2 == 0) && ((writeS engine (readS engine (⟨100, false, false, false, 0, ([1, 7] : List Int)⟩ : Frame)).1).2 == 0)))] ?_; intro bH G; clear aN
 rcases Bool.eq_false_or_eq_true (((readS engine (⟨100, false, false, false, 0, ([1, 7] : List Int)⟩ : Frame)).2 == 0) && ((writeS engine (readS engine (⟨100, false, false, false, 0, ([1, 7] : List Int)⟩ : Frame)).1).2 == 0)) with A | A
 · -- true
  have H := F.1 A; clear F
  have aO := G.reval (d := 24) (c := []) (v := .bool (((readS engine (⟨100, false, false, false, 0, ([1, 7] : List Int)⟩ : Frame)).2 == 0) && ((writeS engine (readS engine (⟨100, false, false, false, 0, ([1, 7] : List Int)⟩ : Frame)).1).2 == 0))) (by kernel_rfl) (.bool true) (by rw [A]); clear G
  refine bt aO p 3 [] [25, 26, 27] [(25, .slice k (readS engine (⟨100, false, false, false, 0, ([1, 7] : List Int)⟩ : Frame)).1.length l), (26, .agg #[str ([119, 104, 105, 99, 104] : List UInt8), i6 1, i6 1]), (27, .agg #[str ([108, 111, 97, 100] : List UInt8), i6 7, i6 1])] ?_; intro bI S; clear aO
  refine sn S p (fun b => .slice (sm b) 2 2) [str ([119, 104, 105, 99, 104] : List UInt8), i6 1, i6 1, str ([108, 111, 97, 100] : List UInt8), i6 7, i6 1] 30 (by rw [wanted_of S (b := true) rfl rfl (by kernel_rfl) (by kernel_rfl)]; rfl) rfl (by kernel_rfl) (by kernel_rfl) ?_; intro U bJ aP V aQ; clear S p
  have bk : Mem w.heap.size [] w Z [.own tyReading 30 (sm U) 2 ([(⟨([119, 104, 105, 99, 104] : List UInt8), 1, 1⟩ : Reading), (⟨([108, 111, 97, 100] : List UInt8), 7, 1⟩ : Reading)] : List Reading), .row z (e53Mf ((writeS engine (readS engine (⟨100, false, false, false, 0, ([1, 7] : List Int)⟩ : Frame)).1).1) i j) 53] O aP := aQ.rowOwn (T := tyReading) (xs := ([(⟨([119, 104, 105, 99, 104] : List UInt8), 1, 1⟩ : Reading), (⟨([108, 111, 97, 100] : List UInt8), 7, 1⟩ : Reading)] : List Reading)) 0 rfl (by decide) (by show 2 ≤ lim; decide) ((RepAll.one (T := tyReading) (x := (⟨([119, 104, 105, 99, 104] : List UInt8), 1, 1⟩ : Reading)) rfl).append (RepAll.one (T := tyReading) (x := (⟨([108, 111, 97, 100] : List UInt8), 7, 1⟩ : Reading)) rfl)); clear aQ
  obtain ⟨aR, s, aS, W⟩ := bk.freeze 0 rfl
  replace f := f.mono s
  replace g := g.mono s
  replace h := h.mono s
  replace m := m.mono s
  replace o := o.mono s
  replace a := Fz.le.trans a s
  have X : Mem w.heap.size [] w Z [.row z (e53Mf ((writeS engine (readS engine (⟨100, false, false, false, 0, ([1, 7] : List Int)⟩ : Frame)).1).1) i j) 53] aR aP := aS; clear aS
  refine fcl V X (.bool (reqS (readS engine (⟨100, false, false, false, 0, ([1, 7] : List Int)⟩ : Frame)).1 ([(⟨([119, 104, 105, 99, 104] : List UInt8), 1, 1⟩ : Reading), (⟨([108, 111, 97, 100] : List UInt8), 7, 1⟩ : Reading)] : List Reading))) 19 #[.slice k (readS engine (⟨100, false, false, false, 0, ([1, 7] : List Int)⟩ : Frame)).1.length l, .slice (sm U) ([(⟨([119, 104, 105, 99, 104] : List UInt8), 1, 1⟩ : Reading), (⟨([108, 111, 97, 100] : List UInt8), 7, 1⟩ : Reading)] : List Reading).length 2] (by rw [wanted_of V (b := true) rfl rfl (by kernel_rfl) (by kernel_rfl)]; rfl) rfl (by kernel_rfl) (fun _ => by kernel_rfl) (req_fun (readS engine (⟨100, false, false, false, 0, ([1, 7] : List Int)⟩ : Frame)).1 ([(⟨([119, 104, 105, 99, 104] : List UInt8), 1, 1⟩ : Reading), (⟨([108, 111, 97, 100] : List UInt8), 7, 1⟩ : Reading)] : List Reading) k l (sm U) 2 _ _ m W X.fz) ?_; intro bK bL aT t; clear V X
  refine bt aT t 2 [] [30] [(31, .bool (reqS (readS engine (⟨100, false, false, false, 0, ([1, 7] : List Int)⟩ : Frame)).1 ([(⟨([119, 104, 105, 99, 104] : List UInt8), 1, 1⟩ : Reading), (⟨([108, 111, 97, 100] : List UInt8), 7, 1⟩ : Reading)] : List Reading)))] ?_; intro bM I; clear aT
  rcases Bool.eq_false_or_eq_true ((reqS (readS engine (⟨100, false, false, false, 0, ([1, 7] : List Int)⟩ : Frame)).1 ([(⟨([119, 104, 105, 99, 104] : List UInt8), 1, 1⟩ : Reading), (⟨([108, 111, 97, 100] : List UInt8), 7, 1⟩ : Reading)] : List Reading))) with B | B
  · -- true
   have bl := H.1 B; clear H
   have aU := I.reval (d := 31) (c := []) (v := .bool (reqS (readS engine (⟨100, false, false, false, 0, ([1, 7] : List Int)⟩ : Frame)).1 ([(⟨([119, 104, 105, 99, 104] : List UInt8), 1, 1⟩ : Reading), (⟨([108, 111, 97, 100] : List UInt8), 7, 1⟩ : Reading)] : List Reading))) (by kernel_rfl) (.bool true) (by rw [B]); clear I
   refine bt aU t 2 [0] [32, 33] [(33, .slice i (writeS engine (readS engine (⟨100, false, false, false, 0, ([1, 7] : List Int)⟩ : Frame)).1).1.Data.length j)] ?_; intro bN Y; clear aU
   refine sn Y t (fun b => .slice (sm b) 2 2) [y8 1, y8 7] 5 (by rw [wanted_of Y (b := true) rfl rfl (by kernel_rfl) (by kernel_rfl)]; rfl) rfl (by kernel_rfl) (by kernel_rfl) ?_; intro aa bO aV ab aW; clear Y t
   have bm : Mem w.heap.size [] w Z [.own t8 5 (sm aa) 2 ([1, 7] : List Int), .row z (e53Mf ((writeS engine (readS engine (⟨100, false, false, false, 0, ([1, 7] : List Int)⟩ : Frame)).1).1) i j) 53] aR aV := aW.rowOwn (T := t8) (xs := ([1, 7] : List Int)) 0 rfl (by decide) (by show 2 ≤ lim; decide) ((RepAll.one (T := t8) (x := 1) rfl).append (RepAll.one (T := t8) (x := 7) rfl)); clear aW
   obtain ⟨bn, n, aX, bo⟩ := bm.freeze 0 rfl
   replace f := f.mono n
   replace g := g.mono n
   replace h := h.mono n
   replace m := m.mono n
   replace o := o.mono n
   replace W := W.mono n
   replace a := Fz.le.trans a n
   have ac : Mem w.heap.size [] w Z [.row z (e53Mf ((writeS engine (readS engine (⟨100, false, false, false, 0, ([1, 7] : List Int)⟩ : Frame)).1).1) i j) 53] bn aV := aX; clear aX
   refine fcl ab ac (.bool (beqS (writeS engine (readS engine (⟨100, false, false, false, 0, ([1, 7] : List Int)⟩ : Frame)).1).1.Data ([1, 7] : List Int))) 14 #[.slice i (writeS engine (readS engine (⟨100, false, false, false, 0, ([1, 7] : List Int)⟩ : Frame)).1).1.Data.length j, .slice (sm aa) ([1, 7] : List Int).length 2] (by rw [wanted_of ab (b := true) rfl rfl (by kernel_rfl) (by kernel_rfl)]; rfl) rfl (by kernel_rfl) (fun _ => by kernel_rfl) (beq_fun (writeS engine (readS engine (⟨100, false, false, false, 0, ([1, 7] : List Int)⟩ : Frame)).1).1.Data ([1, 7] : List Int) i j (sm aa) 2 _ _ o bo ac.fz) ?_; intro bP bQ aY aZ; clear ab ac
   refine bt aY aZ 2 [] [36] [(0, .bool (beqS (writeS engine (readS engine (⟨100, false, false, false, 0, ([1, 7] : List Int)⟩ : Frame)).1).1.Data ([1, 7] : List Int)))] ?_; intro bR bp; clear aY
   refine nlH (q _ _ ?_); clear q R
   refine wp_ret ?_
   refine ra1 bp (.bool (beqS (writeS engine (readS engine (⟨100, false, false, false, 0, ([1, 7] : List Int)⟩ : Frame)).1).1.Data ([1, 7] : List Int))) ?_
   exact ⟨(beqS (writeS engine (readS engine (⟨100, false, false, false, 0, ([1, 7] : List Int)⟩ : Frame)).1).1.Data ([1, 7] : List Int)), rfl, bl, aZ.below⟩
  · -- false
   have bq := H.2 B; clear H
   have a1 := I.reval (d := 31) (c := []) (v := .bool (reqS (readS engine (⟨100, false, false, false, 0, ([1, 7] : List Int)⟩ : Frame)).1 ([(⟨([119, 104, 105, 99, 104] : List UInt8), 1, 1⟩ : Reading), (⟨([108, 111, 97, 100] : List UInt8), 7, 1⟩ : Reading)] : List Reading))) (by kernel_rfl) (.bool false) (by rw [B]); clear I
   refine bt a1 t 6 [] [32, 33, 34, 35, 36] [(0, .bool false)] ?_; intro bS br; clear a1
   refine nlH (q _ _ ?_); clear q R
   refine wp_ret ?_
   refine ra1 br (.bool false) ?_
   exact ⟨false, rfl, bq, t.below⟩
 · -- false
  have bs := F.2 A; clear F
  have a3 := G.reval (d := 24) (c := []) (v := .bool (((readS engine (⟨100, false, false, false, 0, ([1, 7] : List Int)⟩ : Frame)).2 == 0) && ((writeS engine (readS engine (⟨100, false, false, false, 0, ([1, 7] : List Int)⟩ : Frame)).1).2 == 0))) (by kernel_rfl) (.bool false) (by rw [A]); clear G
  refine bt a3 p 13 [] [25, 26, 27, 28, 29, 30, 32, 33, 34, 35, 36] [(0, .bool false)] ?_; intro bT bu; clear a3
  refine nlH (q _ _ ?_); clear q R
  refine wp_ret ?_
  refine ra1 bu (.bool false) ?_
  exact ⟨false, rfl, bs, p.below⟩

end Go.Proofs.Ytdndfbamhnchfaa
set_option linter.unusedVariables false
set_option linter.unusedSimpArgs false
set_option maxRecDepth 100000
set_option maxHeartbeats 0
namespace Go.Proofs.Ytdndfbamhnchfaa
open Go.Sy Go.RowKit
theorem mchall_fun (u0 : List Message) (ao1 : Option Addr) (cap2 : Nat) (Z : Fz) (w : World) (hs3 : SlR tyMessage Z ao1 cap2 u0) (hZ : Z.on w) : Calls Try.prog 45 #[.slice ao1 u0.length cap2] w fun e w' => e = .returned (i6 (mchallS u0)) ∧ Below w.heap.size w w' :=
  (mchall_walk u0 ao1 cap2 Z w hs3 hZ (mchall_ok u0)).mono fun _ _ ⟨r, he, hk, hb⟩ => ⟨by subst hk; exact he, hb⟩

theorem meant_fun   (Z : Fz) (w : World)  (hZ : Z.on w) : Calls Try.prog 17 #[] w fun e w' => e = .returned (.bool true) ∧ Below w.heap.size w w' :=
  (meant_walk   Z w  hZ (meant_ok )).mono fun _ _ ⟨r, he, hk, hb⟩ => ⟨by subst hk; exact he, hb⟩

theorem mfind_walk (u0 : List Message) (u1 : Frame) (ao1 : Option Addr) (cap2 : Nat) (ao4 : Option Addr) (cap5 : Nat) (Z : Fz) (w : World) (hs3 : SlR tyMessage Z ao1 cap2 u0) (hs6 : SlR t8 Z ao4 cap5 u1.Data) (hZ : Z.on w) {K : (Int × Int) → Prop} (hp : mfind_vc u0 u1 K) : Calls Try.prog 22 #[.slice ao1 u0.length cap2, .agg #[i6 u1.ID, .bool u1.Long, .bool u1.Fast, .bool u1.Remote, i6 u1.Size, .slice ao4 u1.Data.length cap5]] w fun e w' => ∃ r : Int × Int, e = .returned (.tuple #[i6 r.1, i6 r.2]) ∧ K r ∧ Below w.heap.size w w' := by
 refine enter0 Try.func22 rfl rfl (by kernel_rfl) ?_; intro Y n; have o := Mem.start w Z hZ; have p := Fz.le.refl Z
 have q := hp (hs3.small); clear hp
 have f := q (hs6.small); clear q
 refine sqH ?_; intro L s
 refine nw n o pb [i6 u1.ID, .bool u1.Long, .bool u1.Fast, .bool u1.Remote, i6 u1.Size, .slice ao4 u1.Data.length cap5] 53 ?_; intro i aa ab u g; clear n o
 refine bt u g 2 [] [] [] ?_; intro ac v; clear u
 refine nlH (s _ _ ?_); clear s L
 refine wp_seq ?_
 refine sqH ?_; intro M x
 refine s1 v 8 (.slice ao1 u0.length cap2) ?_; intro ad y; clear v
 refine fc y g (mchall_fun u0 ao1 cap2 _ _ hs3 g.fz) ?_; intro ae af z a; clear y g
 refine s1 z 6 (i6 (mchallS u0)) ?_; intro ag A; clear z
 refine nlH (x _ _ ?_); clear x M
 refine sqB A a [] [] [(11, .bool ((mchallS u0) != 0))] ?_; intro ah b; clear A
 refine cd b (t := (mchallS u0) != 0) (by kernel_rfl) (fun j => ?_) (fun j => ?_)
 · -- yes
  have N := f.1 j; clear f
  refine sqB b a [] [] [(4, i6 0), (5, i6 (mchallS u0))] ?_; intro ai O; clear b
  refine wp_ret ?_
  refine thr ?_
  refine ra2 O (.tuple #[i6 0, i6 (mchallS u0)]) ?_
  exact ⟨(0, (mchallS u0)), rfl, N, a.below⟩
 · -- no
  have h := f.2 j; clear f
  refine wp_skip ?_
  refine thn ?_
  refine wp_seq ?_
  refine sqH ?_; intro P B
  refine l2 b a 13 0 0 6 [i6 u1.ID, .bool u1.Long, .bool u1.Fast, .bool u1.Remote, i6 u1.Size, .slice ao4 u1.Data.length cap5] rfl rfl ?_; intro aj C; clear b
  refine fc C a (fcheckfr_fun u1 ao4 cap5 _ _ hs6 a.fz) ?_; intro ak Q D c; clear C a
  refine s1 D 7 (i6 (fcheckfr u1)) ?_; intro al E; clear D
  refine nlH (B _ _ ?_); clear B P
  refine sqB E c [] [] [(16, .bool ((fcheckfr u1) != 0))] ?_; intro am d; clear E
  refine cd d (t := (fcheckfr u1) != 0) (by kernel_rfl) (fun k => ?_) (fun k => ?_)
  · -- yes
   have R := h.1 k; clear h
   refine sqB d c [] [] [(4, i6 0), (5, i6 (fcheckfr u1))] ?_; intro an S; clear d
   refine wp_ret ?_
   refine thr ?_
   refine ra2 S (.tuple #[i6 0, i6 (fcheckfr u1)]) ?_
   exact ⟨(0, (fcheckfr u1)), rfl, R, c.below⟩
  · -- no
   have T := h.2 k; clear h
   refine wp_skip ?_
   refine thn ?_
   refine sqH ?_; intro U F
   refine bt d c 2 [] [] [(18, .slice ao1 u0.length cap2), (19, .func (.func 47) #[] #[pt i 0])] ?_; intro ao G; clear d
   obtain ⟨V, l, H, W⟩ := c.freezeRow 0 rfl
   replace hs3 := hs3.mono l
   replace hs6 := hs6.mono l
   replace p := Fz.le.trans p l
   have m : Mem w.heap.size [] w Z [] V Q := H; clear H
   refine fc G m (midxf_fun u0 (fun x0 => mfd1 x0 u1) ao1 cap2 47 #[pt i 0] _ _ hs3 (fun Z1 w1 h1 h2 x0 m0 n0 s0 => mfd1_fun x0 u1 m0 n0 i 0 ao4 cap5 Z1 w1 s0 (W.mono h1) (SlR.mono hs6 h1) h2) (fun _ _ => by kernel_rfl) m.fz) ?_; intro ap aq I J; clear G m
   refine bt I J 2 [] [] [(4, i6 (midxfS u0 (fun x0 => mfd1 x0 u1))), (5, i6 0)] ?_; intro ar X; clear I
   refine nlH (F _ _ ?_); clear F U
   refine wp_ret ?_
   refine ra2 X (.tuple #[i6 (midxfS u0 (fun x0 => mfd1 x0 u1)), i6 0]) ?_
   exact ⟨((midxfS u0 (fun x0 => mfd1 x0 u1)), 0), rfl, T, J.below⟩

end Go.Proofs.Ytdndfbamhnchfaa
