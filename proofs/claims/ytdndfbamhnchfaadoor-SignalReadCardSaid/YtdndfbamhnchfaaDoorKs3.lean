/- Texts put together (pure ones, or walks made by program). -/
import Derived.Test.YtdndfbamhnchfaaDoorKs0
import Derived.Test.YtdndfbamhnchfaaDoorKs1
import Derived.Test.YtdndfbamhnchfaaDoorKs2
import Derived.Shelf.Lay
import Derived.Ground.NamesProg
import Derived.Shelf.Sort.Plain
import Derived.Shelf.Slices.In.SortNone
import Derived.Shelf.Strings.SlTrimAscii
namespace Go.Proofs
open Go.Shelf
def Tryd.lays189_ren : Go.Shelf.Ren := ⟨fun | 189 => 61 | 125 => 99 | 257 => 98 | 128 => 125 | 129 => 126 | 294 => 116 | 295 => 117 | 296 => 118 | 297 => 119 | 298 => 120 | 299 => 121 | 216 => 122 | 300 => 123 | 301 => 124 | 328 => 132 | 329 => 133 | 330 => 134 | 331 => 135 | 332 => 136 | 215 => 100 | 343 => 144 | n => n, fun | 28 => 43 | 3 => 3 | 46 => 84 | 0 => 0 | 51 => 109 | 53 => 104 | 4 => 4 | 183 => 138 | 182 => 137 | 131 => 143 | 5 => 5 | 9 => 9 | 218 => 150 | 222 => 153 | 228 => 167 | 229 => 79 | n => n, fun | n => n⟩
theorem Tryd.lays189 : Go.Proofs.Lays.n189 Tryd.prog Tryd.lays189_ren := {
  mixed := by kernel_rfl
  f125 := Tryd.func99.trans (congrArg some (by kernel_rfl))
  f128 := Tryd.func125.trans (congrArg some (by kernel_rfl))
  f129 := Tryd.func126.trans (congrArg some (by kernel_rfl))
  f189 := Tryd.func61.trans (congrArg some (by kernel_rfl))
  f215 := Tryd.func100.trans (congrArg some (by kernel_rfl))
  f216 := Tryd.func122.trans (congrArg some (by kernel_rfl))
  f257 := Tryd.func98.trans (congrArg some (by kernel_rfl))
  f294 := Tryd.func116.trans (congrArg some (by kernel_rfl))
  f295 := Tryd.func117.trans (congrArg some (by kernel_rfl))
  f296 := Tryd.func118.trans (congrArg some (by kernel_rfl))
  f297 := Tryd.func119.trans (congrArg some (by kernel_rfl))
  f298 := Tryd.func120.trans (congrArg some (by kernel_rfl))
  f299 := Tryd.func121.trans (congrArg some (by kernel_rfl))
  f300 := Tryd.func123.trans (congrArg some (by kernel_rfl))
  f301 := Tryd.func124.trans (congrArg some (by kernel_rfl))
  f328 := Tryd.func132.trans (congrArg some (by kernel_rfl))
  f329 := Tryd.func133.trans (congrArg some (by kernel_rfl))
  f330 := Tryd.func134.trans (congrArg some (by kernel_rfl))
  f331 := Tryd.func135.trans (congrArg some (by kernel_rfl))
  f332 := Tryd.func136.trans (congrArg some (by kernel_rfl))
  f343 := Tryd.func144.trans (congrArg some (by kernel_rfl))
  t0 := Tryd.underlying0
  a0 := Tryd.isAgg0
  z0 := Tryd.sizeOf0
  v0 := Tryd.zeroValue0
  t3 := Tryd.underlying3
  a3 := Tryd.isAgg3
  z3 := Tryd.sizeOf3
  v3 := Tryd.zeroValue3
  t4 := Tryd.underlying4
  a4 := Tryd.isAgg4
  z4 := Tryd.sizeOf4
  v4 := Tryd.zeroValue4
  t5 := Tryd.underlying5
  a5 := Tryd.isAgg5
  z5 := Tryd.sizeOf5
  v5 := Tryd.zeroValue5
  t9 := Tryd.underlying9
  a9 := Tryd.isAgg9
  z9 := Tryd.sizeOf9
  v9 := Tryd.zeroValue9
  t28 := Tryd.underlying43
  a28 := Tryd.isAgg43
  z28 := Tryd.sizeOf43
  v28 := Tryd.zeroValue43
  t46 := Tryd.underlying84
  a46 := Tryd.isAgg84
  z46 := Tryd.sizeOf84
  v46 := Tryd.zeroValue84
  t51 := Tryd.underlying109
  a51 := Tryd.isAgg109
  z51 := Tryd.sizeOf109
  v51 := Tryd.zeroValue109
  t53 := Tryd.underlying104
  a53 := Tryd.isAgg104
  z53 := Tryd.sizeOf104
  v53 := Tryd.zeroValue104
  t131 := Tryd.underlying143
  a131 := Tryd.isAgg143
  z131 := Tryd.sizeOf143
  v131 := Tryd.zeroValue143
  t182 := Tryd.underlying137
  a182 := Tryd.isAgg137
  z182 := Tryd.sizeOf137
  v182 := Tryd.zeroValue137
  t183 := Tryd.underlying138
  a183 := Tryd.isAgg138
  z183 := Tryd.sizeOf138
  v183 := Tryd.zeroValue138
  t218 := Tryd.underlying150
  a218 := Tryd.isAgg150
  z218 := Tryd.sizeOf150
  v218 := Tryd.zeroValue150
  t222 := Tryd.underlying153
  a222 := Tryd.isAgg153
  z222 := Tryd.sizeOf153
  v222 := Tryd.zeroValue153
  t228 := Tryd.underlying167
  a228 := Tryd.isAgg167
  z228 := Tryd.sizeOf167
  v228 := Tryd.zeroValue167
  t229 := Tryd.underlying79
  a229 := Tryd.isAgg79
  z229 := Tryd.sizeOf79
  v229 := Tryd.zeroValue79 }
end Go.Proofs
set_option linter.unusedVariables false
set_option linter.unusedSimpArgs false
set_option maxRecDepth 100000
set_option maxHeartbeats 0
namespace Go.Proofs.YtdndfbamhnchfaaDoor
open Go.Sy Go.RowKit
theorem swrite_fun (u0 : Signal) (u1 : List Int) (u2 : Int) (u3 : Int) (hpre : isBytes u1) (ao1 : Option Addr) (cap2 : Nat) (Z : Fz) (w : World) (hs3 : SlR t8 Z ao1 cap2 u1) (hZ : Z.on w) : Calls Tryd.prog 14 #[.agg #[str u0.Name, i6 u0.Start, i6 u0.Size, .bool u0.Back, .bool u0.Signed, i6 u0.Mul, i6 u0.Div, i6 u0.Add, i6 u0.Key], .slice ao1 u1.length cap2, i6 u2, i6 u3] w fun e w' => ∃ (ao1001 : Option Addr) (cap1002 : Nat) (Z' : Fz), e = .returned (.tuple #[.slice ao1001 (swriteS u0 u1 u2 u3).1.length cap1002, i6 (swriteS u0 u1 u2 u3).2]) ∧ Mem w.heap.size [] w Z [.own t8 5 ao1001 cap1002 (swriteS u0 u1 u2 u3).1] Z' w' :=
  (swrite_walk u0 u1 u2 u3 ao1 cap2 Z w hs3 hZ (swrite_ok u0 u1 u2 u3 hpre)).mono fun _ _ ⟨r, h0, h1, h2, he, hk, hm⟩ => by subst hk; exact ⟨h0, h1, h2, he, hm⟩

theorem sread_fun (u0 : Signal) (u1 : List Int) (hpre : isBytes u1) (ao1 : Option Addr) (cap2 : Nat) (Z : Fz) (w : World) (hs3 : SlR t8 Z ao1 cap2 u1) (hZ : Z.on w) : Calls Tryd.prog 7 #[.agg #[str u0.Name, i6 u0.Start, i6 u0.Size, .bool u0.Back, .bool u0.Signed, i6 u0.Mul, i6 u0.Div, i6 u0.Add, i6 u0.Key], .slice ao1 u1.length cap2] w fun e w' => e = .returned (.tuple #[i6 (sreadS u0 u1).1, .agg #[str (sreadS u0 u1).2.1.Name, i6 (sreadS u0 u1).2.1.Num, i6 (sreadS u0 u1).2.1.Den], i6 (sreadS u0 u1).2.2]) ∧ Below w.heap.size w w' :=
  (sread_walk u0 u1 ao1 cap2 Z w hs3 hZ (sread_ok u0 u1 hpre)).mono fun _ _ ⟨r, he, hk, hb⟩ => ⟨by subst hk; exact he, hb⟩

open Go Go.Sort
theorem sort_block (w : World) (blk n : Nat) (d : Array Int) (os : Array Obj) (cur : Array Value) (e : TypeId) (fr : Nat × Nat) (h : w.heap[blk]? = some (.cells cur e fr)) : (grow (putRow (Value.int .i64) (Go.Sort.ahead w n) blk 0 d) os).heap[blk]? = some (.cells (putCells (Value.int .i64) 0 d cur) e fr) := by
  have hl := (Array.getElem?_eq_some_iff.1 h).1
  have hl' : blk < (w.heap.modify blk (onCells (putCells (Value.int .i64) 0 d))).size := by rw [Array.size_modify]; exact hl
  show (w.heap.modify blk (onCells (putCells (Value.int .i64) 0 d)) ++ os)[blk]? = _
  rw [Array.getElem?_append, if_pos hl', Array.getElem?_modify, if_pos rfl, h]
  rfl
theorem sort_grown (w : World) (blk n : Nat) (d : Array Int) (os : Array Obj) : w.grownBy (grow (putRow (Value.int .i64) (Go.Sort.ahead w n) blk 0 d) os) (some blk) := by
  refine ⟨rfl, rfl, rfl, ?_, fun k hk hne => ?_⟩
  · show w.heap.size ≤ (w.heap.modify blk _ ++ os).size
    rw [Array.size_append, Array.size_modify]
    omega
  · have hl' : k < (w.heap.modify blk (onCells (putCells (Value.int .i64) 0 d))).size := by rw [Array.size_modify]; exact hk
    show (w.heap.modify blk (onCells (putCells (Value.int .i64) 0 d)) ++ os)[k]? = _
    rw [Array.getElem?_append, if_pos hl', Array.getElem?_modify, if_neg (fun h => hne (by rw [h]))]


theorem sort_cells (d : List Int) (cur : Array Value) (n cap : Nat) (hc : cur.size = cap) (hd : d.length ≤ cap) : ((putCells (Value.int .i64) 0 d.toArray cur).toList.take d.length) = d.map (Value.int .i64) := by
  apply List.ext_getElem?
  intro k
  rw [List.getElem?_take, List.getElem?_map]
  by_cases hk : k < d.length
  · rw [if_pos hk, List.getElem?_eq_getElem hk, Array.getElem?_toList]
    unfold putCells
    rw [Array.getElem?_mapIdx, Array.getElem?_eq_getElem (by omega), Option.map_some, Option.map_some, if_pos ⟨by omega, by simpa using hk⟩]
    congr 1
    simp [hk]
  · rw [if_neg hk, List.getElem?_eq_none (by omega)]
    rfl
theorem sort_mem {B : Nat} {U : List Nat} {w0 : World} {Z0 : Fz} {R : List Res} {Z : Fz} {w : World} (hM : Mem B U w0 Z0 R Z w) (i : Nat) {e : TypeId} {ad : Addr} {cap : Nat} {xs : List Int} (hR : R[i]? = some (.own t6 e (some ad) cap xs)) (n : Nat) (os : Array Obj) (ys : List Int) (hl : ys.length = xs.length) : Mem B U w0 Z0 (R.set i (.own t6 e (some ad) cap ys)) Z (grow (putRow (Value.int .i64) (Go.Sort.ahead w n) ad.block 0 ys.toArray) os) := by
  obtain ⟨a, c, cells, ho, hr⟩ := hM.res _ (List.mem_of_getElem? hR)
  rcases ho.2 with ⟨hv, _⟩ | ⟨g, cap', cur, hv, hb, hg, hn, hc, hs, ht⟩
  · cases hv
  · cases hv
    refine hM.upd hR (sort_grown w _ n _ os) _ ⟨a, by rw [hl]; exact c, ys.map (Value.int .i64), ⟨by simp [tyInt], .inr ⟨g, cap, _, by rw [hl], hb, sort_block w g n _ os cur e _ hg, by rw [hl]; exact hn, hc, ?_, ?_⟩⟩, ?_⟩ (fun b hb => .inl hb)
    · unfold putCells; rw [Array.size_mapIdx]; exact hs
    · have := sort_cells ys cur n (cap * 1) (by simpa [tyInt] using hs) (by omega)
      simpa [tyInt] using this
    · refine ⟨by simp [tyInt], fun j x hx => ?_⟩
      show List.take 1 (List.drop (j * 1) (ys.map (Value.int .i64))) = [Value.int .i64 x]
      have hj := (List.getElem?_eq_some_iff.1 hx).1
      rw [Nat.mul_one, List.drop_eq_getElem_cons (by rw [List.length_map]; exact hj), List.take_succ_cons, List.take_zero, List.getElem_map, (List.getElem?_eq_some_iff.1 hx).2]
theorem sort_frozen (w : World) (g j : Nat) (cur : Array Value) (e : TypeId) (hg : w.heap[g]? = some (.cells cur e (0, 0))) : w.frozen? ⟨g, j, none⟩ = false := by
  simp [World.frozen?, hg]
theorem sort_holds {B : Nat} {U : List Nat} {Z : Fz} {w : World} {e : TypeId} {ad : Addr} {cap : Nat} {xs : List Int} (h : (Res.own t6 e (some ad) cap xs).holds B U Z w) : ad = ⟨ad.block, 0, none⟩ ∧ ad.block < w.heap.size ∧ Holds (Value.int .i64) w ad.block 0 xs.toArray := by
  obtain ⟨d, f, cells, ho, hr⟩ := h
  rcases ho.2 with ⟨hv, _⟩ | ⟨g, cap', cur, hv, hb, hg, hn, hc, hs, ht⟩
  · cases hv
  · cases hv
    refine ⟨rfl, (Array.getElem?_eq_some_iff.1 hg).1, fun j hj => ⟨?_, sort_frozen w g _ cur e hg⟩⟩
    have hj : j < xs.length := by simpa using hj
    have b := hr.2 j xs[j] (List.getElem?_eq_getElem hj)
    have b : List.take 1 (List.drop (j * 1) cells) = [Value.int .i64 xs[j]] := b
    have a : cells[j]? = some (Value.int .i64 xs[j]) := by
      have c := congrArg (fun l => l[0]?) b
      simpa using c
    rw [← ht, List.getElem?_take] at a
    split at a
    · show w.cell? ⟨g, 0 + j, none⟩ = _
      rw [cell_of_row w g _ cur e (0, 0) hg, Nat.zero_add]
      rw [Array.getElem?_toList] at a
      rw [a]
      simp [hj]
    · cases a
theorem isort_at {P : Program} {fid : Nat} (u0 : List Int) (ao1 : Option Addr) (cap2 : Nat) (B : Nat) (w0 : World) (Z0 : Fz) (Rr : List Res) (Z : Fz) (w : World) {e : TypeId} (hM0 : Mem B [] w0 Z0 ((.own t6 e ao1 cap2 u0) :: Rr) Z w)
    (h1 : ∀ (blk off cap : Nat) (zs : List Int) (w : World) (hH : Holds (Value.int .i64) w blk off zs.toArray) (hblk : blk < w.heap.size) (hsz : zs.length < 4611686018427387904), Calls P fid #[.slice (some ⟨blk, off, none⟩) zs.length cap] w fun e w' => e = .returned (.tuple #[]) ∧ ∃ n os, w' = grow (putRow (Value.int .i64) (Go.Sort.ahead w n) blk off (zs.mergeSort fun x y => decide (x ≤ y)).toArray) os)
    (h2 : ∀ (p : Option Addr) (cap : Nat) (w : World), Calls P fid #[.slice p 0 cap] w fun e w' => e = .returned (.tuple #[]) ∧ w' = w) :
    Calls P fid #[.slice ao1 u0.length cap2] w fun e9 w' => ∃ (Z' : Fz), e9 = .returned (.tuple #[]) ∧ Fz.le Z Z' ∧ ((isortS u0).length = u0.length) ∧ Mem B [] w0 Z0 ((.own t6 e ao1 cap2 (isortS u0)) :: Rr) Z' w' := by
  have hr := hM0.res _ List.mem_cons_self
  cases ao1 with
  | none =>
    obtain ⟨_, _, cells, ho, _⟩ := hr
    rcases ho.2 with ⟨hv, hn⟩ | ⟨g, cap', cur, hv, _⟩
    · have : u0 = [] := List.eq_nil_of_length_eq_zero hn
      subst this
      have a : isortS [] = [] := by unfold isortS; exact List.mergeSort_nil
      rw [a]
      exact (h2 none cap2 w).mono fun _ _ ⟨ha, hb⟩ => by subst hb; exact ⟨Z, ha, Fz.le.refl Z, rfl, hM0⟩
    · cases hv
  | some ad =>
    obtain ⟨ha, hb, hc⟩ := sort_holds hr
    have hsm : u0.length < 4611686018427387904 := by
      have := hr.2.1
      have e : lim = 140737488355328 := rfl
      omega
    have hcall := h1 ad.block 0 cap2 u0 w hc hb hsm
    rw [← ha] at hcall
    refine hcall.mono ?_
    rintro _ _ ⟨he, n, os, rfl⟩
    exact ⟨Z, he, Fz.le.refl Z, isort_len u0, sort_mem hM0 0 rfl n os (isortS u0) (isort_len u0)⟩
theorem isort_fun (u0 : List Int) (ao1 : Option Addr) (cap2 : Nat) (B : Nat) (w0 : World) (Z0 : Fz) (Rr : List Res) (Z : Fz) (w : World) (hM0 : Mem B [] w0 Z0 ((.own t6 3 ao1 cap2 u0) :: Rr) Z w) (hZ : Z.on w) : Calls Tryd.prog 61 #[.slice ao1 u0.length cap2] w fun e w' => ∃ (Z' : Fz), e = .returned (.tuple #[]) ∧ Fz.le Z Z' ∧ ((isortS u0).length = u0.length) ∧ Mem B [] w0 Z0 ((.own t6 3 ao1 cap2 (isortS u0)) :: Rr) Z' w' :=
  isort_at u0 ao1 cap2 B w0 Z0 Rr Z w hM0 (fun blk off cap zs w hH hb hs => Any.slices_Sort_int Tryd.lays189 blk off cap zs w hH hb hs) (fun p cap w => Any.slices_Sort_int_none Tryd.lays189 p cap w)

theorem icmp_walk (u0 : Int) (u1 : Int)  (Z : Fz) (w : World)  (hZ : Z.on w) {K : Int → Prop} (hp : icmp_vc u0 u1 K) : Calls Tryd.prog 62 #[i6 u0, i6 u1] w fun e w' => ∃ r : Int, e = .returned (i6 r) ∧ K r ∧ Below w.heap.size w w' := by
 refine enter0 Tryd.func62 rfl rfl (by kernel_rfl) ?_; intro U u; have h := Mem.start w Z hZ; have V := Fz.le.refl Z
 refine sqB u h [] [] [] ?_; intro W v; clear u
 refine sqH ?_; intro F x
 refine s1 v 7 (i6 u0) ?_; intro X y; clear v
 refine fc y h (iisnan_fun u0 _ _ h.fz) ?_; intro Y aa z m; clear y h
 refine s1 z 5 (.bool (iisnan u0)) ?_; intro ab A; clear z
 refine nlH (x _ _ ?_); clear x F
 refine sqH ?_; intro G B
 refine s1 A 9 (i6 u1) ?_; intro ac C; clear A
 refine fc C m (iisnan_fun u1 _ _ m.fz) ?_; intro ad ae D a; clear C m
 refine s1 D 6 (.bool (iisnan u1)) ?_; intro af E; clear D
 refine nlH (B _ _ ?_); clear B G
 refine wp_seq ?_
 refine sqB E a [] [] [(11, .bool (iisnan u0))] ?_; intro ag b; clear E
 refine cd b (t := (iisnan u0)) (by kernel_rfl) (fun n => ?_) (fun n => ?_)
 · -- yes
  have i := hp.1 n; clear hp
  refine wp_seq ?_
  refine sqB b a [] [] [(12, .bool (iisnan u1))] ?_; intro ah c; clear b
  refine cd c (t := (iisnan u1)) (by kernel_rfl) (fun o => ?_) (fun o => ?_)
  · -- yes
   have H := i.1 o; clear i
   refine sqB c a [] [] [(4, i6 0)] ?_; intro ai I; clear c
   refine wp_ret ?_
   refine thr ?_
   refine thr ?_
   refine ra1 I (i6 0) ?_
   exact ⟨0, rfl, H, a.below⟩
  · -- no
   have J := i.2 o; clear i
   refine wp_skip ?_
   refine thn ?_
   refine sqB c a [] [] [(4, i6 (-1))] ?_; intro aj L; clear c
   refine wp_ret ?_
   refine thr ?_
   refine ra1 L (i6 (-1)) ?_
   exact ⟨-1, rfl, J, a.below⟩
 · -- no
  have j := hp.2 n; clear hp
  refine wp_skip ?_
  refine thn ?_
  refine wp_seq ?_
  refine sqB b a [] [] [(13, .bool (iisnan u1))] ?_; intro ak d; clear b
  refine cd d (t := (iisnan u1)) (by kernel_rfl) (fun p => ?_) (fun p => ?_)
  · -- yes
   have M := j.1 p; clear j
   refine sqB d a [] [] [(4, i6 1)] ?_; intro al N; clear d
   refine wp_ret ?_
   refine thr ?_
   refine ra1 N (i6 1) ?_
   exact ⟨1, rfl, M, a.below⟩
  · -- no
   have k := j.2 p; clear j
   refine wp_skip ?_
   refine thn ?_
   refine wp_seq ?_
   refine sqB d a [] [] [(16, .bool (decide (u0 < u1)))] ?_; intro am f; clear d
   refine cd f (t := decide (u0 < u1)) (by kernel_rfl) (fun q => ?_) (fun q => ?_)
   · -- yes
    have O := k.1 q; clear k
    refine sqB f a [] [] [(4, i6 (-1))] ?_; intro an P; clear f
    refine wp_ret ?_
    refine thr ?_
    refine ra1 P (i6 (-1)) ?_
    exact ⟨-1, rfl, O, a.below⟩
   · -- no
    have l := k.2 q; clear k
    refine wp_skip ?_
    refine thn ?_
    refine wp_seq ?_
    refine sqB f a [] [] [(19, .bool (decide (u0 > u1)))] ?_; intro ao g; clear f
    refine cd g (t := decide (u0 > u1)) (by kernel_rfl) (fun s => ?_) (fun s => ?_)
    · -- yes
     have Q := l.1 s; clear l
     refine sqB g a [] [] [(4, i6 1)] ?_; intro ap R; clear g
     refine wp_ret ?_
     refine thr ?_
     refine ra1 R (i6 1) ?_
     exact ⟨1, rfl, Q, a.below⟩
    · -- no
     have S := l.2 s; clear l
     refine wp_skip ?_
     refine thn ?_
     refine sqB g a [] [] [(4, i6 0)] ?_; intro aq T; clear g
     refine wp_ret ?_
     refine ra1 T (i6 0) ?_
     exact ⟨0, rfl, S, a.below⟩

end Go.Proofs.YtdndfbamhnchfaaDoor
set_option linter.unusedVariables false
set_option linter.unusedSimpArgs false
set_option maxRecDepth 100000
set_option maxHeartbeats 0
namespace Go.Proofs.YtdndfbamhnchfaaDoor
open Go.Sy Go.RowKit
abbrev e23F (X : Signal) : List Value := [str X.Name, i6 X.Start, i6 X.Size, .bool X.Back, .bool X.Signed, i6 X.Mul, i6 X.Div, i6 X.Add, i6 X.Key]
theorem icmp_fun (u0 : Int) (u1 : Int)  (Z : Fz) (w : World)  (hZ : Z.on w) : Calls Tryd.prog 62 #[i6 u0, i6 u1] w fun e w' => e = .returned (i6 (icmpS u0 u1)) ∧ Below w.heap.size w w' :=
  (icmp_walk u0 u1  Z w  hZ (icmp_ok u0 u1)).mono fun _ _ ⟨r, he, hk, hb⟩ => ⟨by subst hk; exact he, hb⟩

theorem sover_walk (u0 : Signal) (u1 : Signal)  (Z : Fz) (w : World)  (hZ : Z.on w) {K : Bool → Prop} (hp : sover_vc u0 u1 K) : Calls Tryd.prog 22 #[.agg #[str u0.Name, i6 u0.Start, i6 u0.Size, .bool u0.Back, .bool u0.Signed, i6 u0.Mul, i6 u0.Div, i6 u0.Add, i6 u0.Key], .agg #[str u1.Name, i6 u1.Start, i6 u1.Size, .bool u1.Back, .bool u1.Signed, i6 u1.Mul, i6 u1.Div, i6 u1.Add, i6 u1.Key]] w fun e w' => ∃ r : Bool, e = .returned (.bool r) ∧ K r ∧ Below w.heap.size w w' := by
 refine enter0 Tryd.func22 rfl rfl (by kernel_rfl) ?_; intro a0 aj; have ak := Mem.start w Z hZ; have h := Fz.le.refl Z
 refine sqH ?_; intro bB al
 refine nw aj ak pb (e23F u0) 23 ?_; intro j a3 cJ am an; clear aj ak
 refine nw am an pb (e23F u1) 23 ?_; intro i a8 cK ao H; clear am an
 refine s1 ao 4 (.bool false) ?_; intro cL ap; clear ao
 refine nlH (al _ _ ?_); clear al bB
 refine wp_seq ?_
 refine sqH ?_; intro bC aq
 refine l2 ap H 8 1 0 9 (e23F u0) rfl rfl ?_; intro cM ar; clear ap
 refine fc ar H (scheck_fun u0 64 _ _ H.fz) ?_; intro cN cO au I; clear ar H
 refine s1 au 10 (.bool ((checkS u0 64) != 0)) ?_; intro cP av; clear au
 refine s1 av 11 (.bool ((checkS u0 64) != 0)) ?_; intro cQ aw; clear av
 have S := aw.atom (((checkS u0 64) != 0) == false) (by kernel_rfl); clear aw
 refine gd S (.agg (e23F u1).toArray) (m := 0) (cj := []) (bj := (checkS u0 64) != 0) rfl rfl (by kernel_rfl) rfl (by kernel_rfl) (by kernel_rfl) (by kernel_rfl) (fun hg => lda S I 0 (g := [0]) (b := i) (off := 0) (k := 9) (cs := (e23F u1)) (vs := (e23F u1)) (ty := 23) rfl (by kernel_rfl) (by kernel_rfl) (by kernel_rfl) (by kernel_rfl) (by kernel_rfl) hg) ?_; intro cR ax; clear S
 refine gcl ax I (i6 (checkS u1 64)) 19 #[.agg (e23F u1).toArray, i6 64] (m := 0) (cj := []) (bj := (checkS u0 64) != 0) rfl rfl (by kernel_rfl) rfl (by kernel_rfl) (by kernel_rfl) (by kernel_rfl) (fun _ => by kernel_rfl) (fun hg => scheck_fun u1 64 _ _ I.fz) ?_; intro cT cU ay J; clear ax I
 refine gp ay 14 0 [] ((checkS u0 64) != 0) (.bool ((checkS u1 64) != 0)) rfl rfl ?_; intro cV U; clear ay
 refine st U (.bool (((checkS u0 64) != 0) || ((checkS u1 64) != 0))) (nog rfl _) rfl (by kernel_rfl) (pk_or U (g := []) (m := 0) (b := (checkS u0 64) != 0) (v := (checkS u1 64) != 0) rfl (by kernel_rfl) (by kernel_rfl) (by kernel_rfl) rfl) ?_; intro az x; clear U
 refine nlH (aq _ _ ?_); clear aq bC
 refine cd x (t := ((checkS u0 64) != 0) || ((checkS u1 64) != 0)) (by kernel_rfl) (fun V => ?_) (fun V => ?_)
 · -- yes
  have bD := hp.1 V; clear hp
  have aA : Fr 49 [] [] az := x.region (by kernel_rfl) (by kernel_rfl); clear x
  refine sqB aA J [] [] [(4, .bool false)] ?_; intro cW bE; clear aA
  refine wp_ret ?_
  refine thr ?_
  refine ra1 bE (.bool false) ?_
  exact ⟨false, rfl, bD, J.below⟩
 · -- no
  have bF := hp.2 V; clear hp
  refine wp_skip ?_
  refine thn ?_
  have aB : Fr 49 [] [⟨2, [], pt j 0⟩, ⟨3, [], pt i 0⟩] az := x.region (by kernel_rfl) (by kernel_rfl); clear x
  refine wp_seq (rgS mixed J [(0, true), (2, true), (1, false), (3, false), (4, true), (5, true)] [] [1, 0] [.row j (e23F u0) 23, .row i (e23F u1) 23] ?_)
  intro bG aC cX W; clear J
  have q := Fz.le.refl Z
  refine cS aB 2 [0, 1] [] [(16, .agg (e23F u0).toArray), (18, .agg (e23F u1).toArray)] ?_; intro cY aD; clear aB
  refine eS rfl ?_; intro bH aE
  obtain ⟨bI, bJ⟩ := bF
  refine ck aD 57 #[.agg (e23F u0).toArray] ?_
  refine (splaces_fun u0 bI _ _ W.fz).mono ?_; rintro _ bK ⟨a, c, bL, rfl, hm⟩; refine ⟨_, rfl, ?_⟩; intro cZ aF; have aG := W.callZ hm; have aH := hm.ext.le; clear hm W aD
  replace q := q.mono aH
  replace h := Fz.le.trans h aH
  have L : Mem w.heap.size [] w Z [.own t6 3 a c (placesS u0), .row i (e23F u1) 23, .row j (e23F u0) 23] bL bK := aG; clear aG
  refine nl (qnI (aE _ _ (L.cst q [2, 1]) ?_)); clear aE bH
  refine eS rfl ?_; intro bM aI
  obtain ⟨bN, aJ⟩ := bJ
  refine ck aF 57 #[.agg (e23F u1).toArray] ?_
  refine (splaces_fun u1 bN _ _ L.fz).mono ?_; rintro _ bO ⟨d, f, bP, rfl, hm⟩; refine ⟨_, rfl, ?_⟩; intro c0 aK; have aL := L.callZ hm; have aM := hm.ext.le; clear hm L aF
  replace q := q.mono aM
  replace h := Fz.le.trans h aM
  have M : Mem w.heap.size [] w Z [.own t6 3 d f (placesS u1), .own t6 3 a c (placesS u0), .row i (e23F u1) 23, .row j (e23F u0) 23] bP bO := aL; clear aL
  refine nl (qnI (aI _ _ (M.cst q [3, 2]) ?_)); clear aI bM
  refine cS aK 2 [] [] [(5, .slice a (placesS u0).length c), (6, .slice d (placesS u1).length f)] ?_; intro c1 aN; clear aK
  refine nS (aC _ _ ?_); clear aC bG
  refine thn ?_
  refine sqH ?_; intro bQ aO
  refine s1 aN 20 (.slice a (placesS u0).length c) ?_; intro c2 aP; clear aN
  refine ck aP 61 #[.slice a (placesS u0).length c] ?_
  refine (isort_fun (placesS u0) a c _ _ _ _ _ _ (M.perm (pk 1 rfl)) M.fz).mono ?_; rintro _ bR ⟨bS, rfl, bT, bU, hm⟩; refine ⟨_, rfl, ?_⟩; intro bV aQ; have aR := hm; clear hm M aP
  replace h := Fz.le.trans h bT
  have aS : Fr 49 [] [⟨2, [], pt j 0⟩, ⟨3, [], pt i 0⟩, ⟨5, [], .slice a (isortS (placesS u0)).length c⟩, ⟨6, [], .slice d (placesS u1).length f⟩, ⟨16, [], .agg (e23F u0).toArray⟩, ⟨17, [], .slice a (isortS (placesS u0)).length c⟩, ⟨18, [], .agg (e23F u1).toArray⟩, ⟨19, [], .slice d (placesS u1).length f⟩, ⟨20, [], .slice a (isortS (placesS u0)).length c⟩, ⟨21, [], .tuple #[]⟩] bV := by rw [bU]; exact aQ.region (by kernel_rfl) (by kernel_rfl)
  clear aQ
  have N : Mem w.heap.size [] w Z [.own t6 3 a c (isortS (placesS u0)), .own t6 3 d f (placesS u1), .row i (e23F u1) 23, .row j (e23F u0) 23] bS bR := aR; clear aR
  have aT := aJ (N.ownSmall 0 rfl); clear aJ
  refine nlH (aO _ _ ?_); clear aO bQ
  refine sqH ?_; intro bW aU
  refine s1 aS 22 (.slice d (placesS u1).length f) ?_; intro c3 aV; clear aS
  refine ck aV 61 #[.slice d (placesS u1).length f] ?_
  refine (isort_fun (placesS u1) d f _ _ _ _ _ _ (N.perm (pk 1 rfl)) N.fz).mono ?_; rintro _ X ⟨bX, rfl, bY, bZ, hm⟩; refine ⟨_, rfl, ?_⟩; intro Y aW; have aX := hm; clear hm N aV
  replace h := Fz.le.trans h bY
  have aY : Fr 49 [] [⟨2, [], pt j 0⟩, ⟨3, [], pt i 0⟩, ⟨5, [], .slice a (isortS (placesS u0)).length c⟩, ⟨6, [], .slice d (isortS (placesS u1)).length f⟩, ⟨16, [], .agg (e23F u0).toArray⟩, ⟨17, [], .slice a (isortS (placesS u0)).length c⟩, ⟨18, [], .agg (e23F u1).toArray⟩, ⟨19, [], .slice d (isortS (placesS u1)).length f⟩, ⟨20, [], .slice a (isortS (placesS u0)).length c⟩, ⟨21, [], .tuple #[]⟩, ⟨22, [], .slice d (isortS (placesS u1)).length f⟩, ⟨23, [], .tuple #[]⟩] Y := by rw [bZ]; exact aW.region (by kernel_rfl) (by kernel_rfl)
  clear aW
  have aZ : Mem w.heap.size [] w Z [.own t6 3 d f (isortS (placesS u1)), .own t6 3 a c (isortS (placesS u0)), .row i (e23F u1) 23, .row j (e23F u0) 23] bX X := aX; clear aX
  have b0 := aT (aZ.ownSmall 0 rfl); clear aT
  refine nlH (aU _ _ ?_); clear aU bW
  refine wp_seq ?_
  refine wp_block ?_
  have a1 : Fr 49 [] [⟨5, [], .slice a (isortS (placesS u0)).length c⟩, ⟨6, [], .slice d (isortS (placesS u1)).length f⟩] Y := aY.region (by kernel_rfl) (by kernel_rfl); clear aY
  obtain ⟨b1, b3, a2, O⟩ := aZ.freeze 1 rfl
  replace h := Fz.le.trans h b3
  have b4 : Mem w.heap.size [] w Z [.own t6 3 d f (isortS (placesS u1)), .row i (e23F u1) 23, .row j (e23F u0) 23] b1 X := a2; clear a2
  obtain ⟨aa, a4, a5, a6⟩ := b4.freeze 0 rfl
  replace O := O.mono a4
  replace h := Fz.le.trans h a4
  have a7 : Mem w.heap.size [] w Z [.row i (e23F u1) 23, .row j (e23F u0) 23] aa X := a5; clear a5
  have a9 : Fr 49 [] [⟨5, [], .slice a (isortS (placesS u0)).length c⟩, ⟨6, [], .slice d (isortS (placesS u1)).length f⟩] Y := a1.region (by kernel_rfl) (by kernel_rfl); clear a1
  obtain ⟨b5, b6, b8, b9⟩ := b0
  have c4 := h
  refine lp (ι := (List Int) × (List Int) × (Option Addr) × Nat × (Option Addr) × Nat × Fz) (fun s => [⟨5, [], .slice s.2.2.1 s.1.length s.2.2.2.1⟩, ⟨6, [], .slice s.2.2.2.2.1 s.2.1.length s.2.2.2.2.2.1⟩]) (fun s => [.row i (e23F u1) 23, .row j (e23F u0) 23]) (fun s => s.2.2.2.2.2.2) (fun s => b5 s.1 s.2.1 ∧ SlR t6 s.2.2.2.2.2.2 s.2.2.1 s.2.2.2.1 s.1 ∧ SlR t6 s.2.2.2.2.2.2 s.2.2.2.2.1 s.2.2.2.2.2.1 s.2.1 ∧ Fz.le aa s.2.2.2.2.2.2) (fun s => b6 s.1 s.2.1) ⟨(isortS (placesS u0)), (isortS (placesS u1)), a, c, d, f, aa⟩ ⟨b8, O, a6, Fz.le.refl _⟩ (by exact a9.region (by kernel_rfl) (by kernel_rfl)) (by exact a7) ?_
  rintro ⟨l, n, y, z, A, B, ab⟩ ⟨ca, ac, ad, C⟩ cb cc ba bb
  have bc : Fr 49 [] [⟨5, [], .slice y l.length z⟩, ⟨6, [], .slice A n.length B⟩] cb := ba; clear ba a9
  have D : Mem w.heap.size [] w Z [.row i (e23F u1) 23, .row j (e23F u0) 23] ab cc := bb; clear bb a7
  have P := b9 l n ca
  replace h := Fz.le.trans h C
  have c5 := O.mono C
  have c6 := a6.mono C
  refine wp_seq ?_
  refine sqB bc D [] [] [(31, .bool ((decide ((l.length : Int) > 0)) && (decide ((n.length : Int) > 0))))] ?_; intro ce E; clear bc
  refine cd E (t := (decide ((l.length : Int) > 0)) && (decide ((n.length : Int) > 0))) (by kernel_rfl) (fun ae => ?_) (fun ae => ?_)
  · -- yes
   have cf := P.1 ae; clear P
   refine wp_skip ?_
   refine thn ?_
   refine wp_block ?_
   have bd : Fr 49 [] [⟨5, [], .slice y l.length z⟩, ⟨6, [], .slice A n.length B⟩] ce := E.region (by kernel_rfl) (by kernel_rfl); clear E
   refine sqQH mixed (by kernel_rfl) D ?_; intro cg be
   refine q1 bd 32 (.slice y l.length z) ?_; intro c7 bf; clear bd
   obtain ⟨ch, bg⟩ := cf
   refine qix bf (T := t6) (xs := l) ac (0 : Int) ch (k := .i64) (e := 3) (bytes := 8) (nog rfl _) rfl (by kernel_rfl) rfl (by kernel_rfl) (by kernel_rfl) (by kernel_rfl) ?_; intro c8 c9 ci o da cl cm cn af; clear bf
   have co := bg o cl; clear bg
   obtain rfl : ci = ([i6 o] : List Value) := cn
   refine qst af (i6 o) (nog rfl _) rfl (by kernel_rfl) (fun v170 hC => lz af hC.fz cm 0 (g := []) rfl (by kernel_rfl) (by kernel_rfl) (by kernel_rfl) rfl) ?_; intro db bh; clear af
   refine q1 bh 35 (.slice A n.length B) ?_; intro dc bi; clear bh
   obtain ⟨cp, bk⟩ := co
   refine qix bi (T := t6) (xs := n) ad (0 : Int) cp (k := .i64) (e := 3) (bytes := 8) (nog rfl _) rfl (by kernel_rfl) rfl (by kernel_rfl) (by kernel_rfl) (by kernel_rfl) ?_; intro dd de cq p df cr ct cu ag; clear bi
   have Q := bk p cr; clear bk
   obtain rfl : cq = ([i6 p] : List Value) := cu
   refine qst ag (i6 p) (nog rfl _) rfl (by kernel_rfl) (fun v189 hC => lz ag hC.fz ct 0 (g := []) rfl (by kernel_rfl) (by kernel_rfl) (by kernel_rfl) rfl) ?_; intro dg bl; clear ag
   refine qcl bl (i6 (icmpS o p)) 62 #[i6 o, i6 p] (nog rfl _) rfl (by kernel_rfl) (fun _ => by kernel_rfl) (qfc fun w hC => icmp_fun o p _ _ hC.fz) ?_; intro dh bm; clear bl
   refine q1 bm 7 (i6 (icmpS o p)) ?_; intro di bn; clear bm
   refine qnl (be _ ?_); clear be cg; intro dj u; clear D
   refine wp_block ?_
   refine sqB bn u [] [] [(41, .bool ((icmpS o p) == 0))] ?_; intro dk F; clear bn
   refine cd F (t := (icmpS o p) == 0) (by kernel_rfl) (fun ah => ?_) (fun ah => ?_)
   · -- yes
    have cv := Q.1 ah; clear Q
    refine sqB F u [] [] [(4, .bool true)] ?_; intro dl cw; clear F
    refine wp_ret ?_
    refine ibr ?_
    refine ibr ?_
    refine thr ?_
    refine ibr ?_
    refine thr ?_
    refine ra1 cw (.bool true) ?_
    exact ⟨true, rfl, cv, u.below⟩
   · -- no
    have R := Q.2 ah; clear Q
    refine sqB F u [] [] [(44, .bool (decide ((icmpS o p) < 0)))] ?_; intro dm G; clear F
    refine cd G (t := decide ((icmpS o p) < 0)) (by kernel_rfl) (fun ai => ?_) (fun ai => ?_)
    · -- yes
     have cx := R.1 ai; clear R
     refine rgH ?_; intro cy bo
     refine s1 G 47 (.slice y l.length z) ?_; intro dn bp; clear G
     obtain ⟨cz, bq⟩ := cx
     refine slL bp (T := t6) (xs := l) ac (1 : Int) cz (k := .i64) (e := 3) (bytes := 8) (nog rfl _) rfl (by kernel_rfl) rfl (by kernel_rfl) (by kernel_rfl) (by kernel_rfl) ?_; intro br bs dp dq cA bt; clear bp
     refine s1 bt 5 (.slice br (l.drop (1 : Int).toNat).length bs) ?_; intro dr cB; clear bt
     refine nlH (bo _ _ ?_); clear bo cy
     refine ibn ?_
     refine ibn ?_
     refine rd ?_
     exact ⟨⟨l.drop (1 : Int).toNat, n, br, bs, A, B, ab⟩, ⟨bq.1, cA, ad, C⟩, bq.2, (cB.region (by kernel_rfl) (by kernel_rfl)).anyβ _ (by kernel_rfl), u.keep (List.Sublist.cons_cons _ (List.Sublist.cons_cons _ (List.Sublist.slnil)))⟩
    · -- no
     have cC := R.2 ai; clear R
     refine rgH ?_; intro cD bu
     refine s1 G 39 (.slice A n.length B) ?_; intro ds bv; clear G
     obtain ⟨cE, bw⟩ := cC
     refine slL bv (T := t6) (xs := n) ad (1 : Int) cE (k := .i64) (e := 3) (bytes := 8) (nog rfl _) rfl (by kernel_rfl) rfl (by kernel_rfl) (by kernel_rfl) (by kernel_rfl) ?_; intro bx bz dt du cF bA; clear bv
     refine s1 bA 6 (.slice bx (n.drop (1 : Int).toNat).length bz) ?_; intro dv cG; clear bA
     refine nlH (bu _ _ ?_); clear bu cD
     refine ibn ?_
     refine ibn ?_
     refine rd ?_
     exact ⟨⟨l, n.drop (1 : Int).toNat, y, z, bx, bz, ab⟩, ⟨bw.1, ac, cF, C⟩, bw.2, (cG.region (by kernel_rfl) (by kernel_rfl)).anyβ _ (by kernel_rfl), u.keep (List.Sublist.cons_cons _ (List.Sublist.cons_cons _ (List.Sublist.slnil)))⟩
  · -- no
   have cH := P.2 ae; clear P
   refine wp_exit ?_
   refine thx ?_
   refine thx ?_
   refine ibx ?_
   refine thn ?_
   refine sqB E D [] [] [(4, .bool false)] ?_; intro dw cI; clear E
   refine wp_ret ?_
   refine ra1 cI (.bool false) ?_
   exact ⟨false, rfl, cH, D.below⟩

end Go.Proofs.YtdndfbamhnchfaaDoor
set_option linter.unusedVariables false
set_option linter.unusedSimpArgs false
set_option maxRecDepth 100000
set_option maxHeartbeats 0
namespace Go.Proofs.YtdndfbamhnchfaaDoor
open Go.Sy Go.RowKit
abbrev e26G (X : Reading) : List Value := [str X.Name, i6 X.Num, i6 X.Den]
theorem sover_fun (u0 : Signal) (u1 : Signal)  (Z : Fz) (w : World)  (hZ : Z.on w) : Calls Tryd.prog 22 #[.agg #[str u0.Name, i6 u0.Start, i6 u0.Size, .bool u0.Back, .bool u0.Signed, i6 u0.Mul, i6 u0.Div, i6 u0.Add, i6 u0.Key], .agg #[str u1.Name, i6 u1.Start, i6 u1.Size, .bool u1.Back, .bool u1.Signed, i6 u1.Mul, i6 u1.Div, i6 u1.Add, i6 u1.Key]] w fun e w' => e = .returned (.bool (overS u0 u1)) ∧ Below w.heap.size w w' :=
  (sover_walk u0 u1  Z w  hZ (sover_ok u0 u1)).mono fun _ _ ⟨r, he, hk, hb⟩ => ⟨by subst hk; exact he, hb⟩

theorem speed_walk   (Z : Fz) (w : World)  (hZ : Z.on w) {K : Signal → Prop} (hp : speed_vc  K) : Calls Tryd.prog 38 #[] w fun e w' => ∃ r : Signal, e = .returned (.agg #[str r.Name, i6 r.Start, i6 r.Size, .bool r.Back, .bool r.Signed, i6 r.Mul, i6 r.Div, i6 r.Add, i6 r.Key]) ∧ K r ∧ Below w.heap.size w w' := by
 refine enter0 Tryd.func38 rfl rfl (by kernel_rfl) ?_; intro q d; have f := Mem.start w Z hZ; have s := Fz.le.refl Z
 refine sqH ?_; intro n g
 refine nw d f pb [str [], i6 0, i6 0, .bool false, .bool false, i6 0, i6 0, i6 0, i6 0] 23 ?_; intro a t u h i; clear d f
 refine nlH (g _ _ ?_); clear g n
 refine sqH ?_; intro o j
 refine s1 h 1 (.agg #[str ([115, 112, 101, 101, 100] : List UInt8), i6 8, i6 16, .bool false, .bool false, i6 1, i6 10, i6 0, i6 (-1)]) ?_; intro x c; clear h
 refine sx c i 0 [str ([115, 112, 101, 101, 100] : List UInt8), i6 8, i6 16, .bool false, .bool false, i6 1, i6 10, i6 0, i6 (-1)] 0 ?_; intro p l; clear i
 have m : Mem w.heap.size [] w Z [.row a [str ([115, 112, 101, 101, 100] : List UInt8), i6 8, i6 16, .bool false, .bool false, i6 1, i6 10, i6 0, i6 (-1)] 23] Z p := l; clear l
 refine nlH (j _ _ ?_); clear j o
 refine wp_ret ?_
 refine rt (fn := Tryd.f38) (v := .agg #[str ([115, 112, 101, 101, 100] : List UInt8), i6 8, i6 16, .bool false, .bool false, i6 1, i6 10, i6 0, i6 (-1)]) c (re1c c (fn := Tryd.f38) rfl (ad := ⟨a, 0, none⟩) (by kernel_rfl) (loadVar_run m 0 (b := a) (k := 9) (vs := [str ([115, 112, 101, 101, 100] : List UInt8), i6 8, i6 16, .bool false, .bool false, i6 1, i6 10, i6 0, i6 (-1)]) (ty := 23) rfl (by kernel_rfl) (by kernel_rfl)) ) ?_
 exact ⟨(⟨([115, 112, 101, 101, 100] : List UInt8), 8, 16, false, false, 1, 10, 0, -1⟩ : Signal), rfl, hp, m.below⟩
theorem speed_fun   (Z : Fz) (w : World)  (hZ : Z.on w) : Calls Tryd.prog 38 #[] w fun e w' => e = .returned (.agg #[str speed.Name, i6 speed.Start, i6 speed.Size, .bool speed.Back, .bool speed.Signed, i6 speed.Mul, i6 speed.Div, i6 speed.Add, i6 speed.Key]) ∧ Below w.heap.size w w' :=
  (speed_walk   Z w  hZ (speed_ok )).mono fun _ _ ⟨r, he, hk, hb⟩ => ⟨by subst hk; exact he, hb⟩

theorem signalled_walk   (Z : Fz) (w : World)  (hZ : Z.on w) {K : Bool → Prop} (hp : signalled_vc  K) : Calls Tryd.prog 9 #[] w fun e w' => ∃ r : Bool, e = .returned (.bool r) ∧ K r ∧ Below w.heap.size w w' := by
 refine enter0 Tryd.func9 rfl rfl (by kernel_rfl) ?_; intro a0 V; have p := Mem.start w Z hZ; have a := Fz.le.refl Z
 refine sqB V p [] [] [] ?_; intro a2 W; clear V
 refine sqH ?_; intro aU X
 refine fc W p (speed_fun  _ _ p.fz) ?_; intro a5 bh Y aa; clear W p
 refine nw Y aa (fun b => .slice (sm b) 3 3) [y8 0, y8 44, y8 1] 5 ?_; intro b9 bi ab ac ad; clear Y aa
 have aV : Mem w.heap.size [] w Z [.own t8 5 (sm b9) 3 ([0, 44, 1] : List Int)] Z ab := ad.rowOwn (T := t8) (xs := ([0, 44, 1] : List Int)) 0 rfl (by decide) (by show 3 ≤ lim; decide) ((RepAll.one (T := t8) (x := 0) rfl).append ((RepAll.one (T := t8) (x := 44) rfl).append (RepAll.one (T := t8) (x := 1) rfl))); clear ad
 obtain ⟨A, aW, ae, f⟩ := aV.freeze 0 rfl
 replace a := Fz.le.trans a aW
 have B : Mem w.heap.size [] w Z [] A ab := ae; clear ae
 obtain ⟨aX, aY⟩ := hp
 refine fc ac B (sread_fun speed ([0, 44, 1] : List Int) aX (sm b9) 3 _ _ f B.fz) ?_; intro bk bl af C; clear ac B
 refine bt af C 4 [] [] [(10, i6 (sreadS speed ([0, 44, 1] : List Int)).1), (11, .agg (e26G ((sreadS speed ([0, 44, 1] : List Int)).2.1)).toArray), (12, i6 (sreadS speed ([0, 44, 1] : List Int)).2.2)] ?_; intro bm ag; clear af
 refine nw ag C pb [str [], i6 0, i6 0] 26 ?_; intro h bn bo ah ai; clear ag C
 refine s1 ah 1 (i6 (sreadS speed ([0, 44, 1] : List Int)).1) ?_; intro bp D; clear ah
 refine sx D ai 0 (e26G ((sreadS speed ([0, 44, 1] : List Int)).2.1)) 0 ?_; intro aZ aj; clear ai
 refine s1 D 3 (i6 (sreadS speed ([0, 44, 1] : List Int)).2.2) ?_; intro bq ak; clear D
 have E : Mem w.heap.size [] w Z [.row h (e26G ((sreadS speed ([0, 44, 1] : List Int)).2.1)) 26] A aZ := aj; clear aj
 refine nlH (X _ _ ?_); clear X aU
 refine sqH ?_; intro a1 al
 refine fc ak E (speed_fun  _ _ E.fz) ?_; intro br bs am an; clear ak E
 refine nw am an (fun b => .slice (sm b) 3 3) [y8 9, y8 0, y8 0] 5 ?_; intro F bu ao ap aq; clear am an
 have a3 : Mem w.heap.size [] w Z [.own t8 5 (sm F) 3 ([9, 0, 0] : List Int), .row h (e26G ((sreadS speed ([0, 44, 1] : List Int)).2.1)) 26] A ao := aq.rowOwn (T := t8) (xs := ([9, 0, 0] : List Int)) 0 rfl (by decide) (by show 3 ≤ lim; decide) ((RepAll.one (T := t8) (x := 9) rfl).append ((RepAll.one (T := t8) (x := 0) rfl).append (RepAll.one (T := t8) (x := 0) rfl))); clear aq
 obtain ⟨a4, ar, au, i⟩ := a3.freeze 0 rfl
 replace f := f.mono ar
 replace a := Fz.le.trans a ar
 have G : Mem w.heap.size [] w Z [.row h (e26G ((sreadS speed ([0, 44, 1] : List Int)).2.1)) 26] a4 ao := au; clear au
 obtain ⟨a6, av⟩ := aY
 refine ck ap 14 #[.agg #[str speed.Name, i6 speed.Start, i6 speed.Size, .bool speed.Back, .bool speed.Signed, i6 speed.Mul, i6 speed.Div, i6 speed.Add, i6 speed.Key], .slice (sm F) ([9, 0, 0] : List Int).length 3, i6 30, i6 1] ?_
 refine (swrite_fun speed ([9, 0, 0] : List Int) 30 1 a6 (sm F) 3 _ _ i G.fz).mono ?_; rintro _ a7 ⟨l, n, a8, rfl, hm⟩; refine ⟨_, rfl, ?_⟩; intro bv aw; have ax := G.callZ hm; have H := hm.ext.le; clear hm G ap
 replace f := f.mono H
 replace i := i.mono H
 replace a := Fz.le.trans a H
 have j : Mem w.heap.size [] w Z [.own t8 5 l n (swriteS speed ([9, 0, 0] : List Int) 30 1).1, .row h (e26G ((sreadS speed ([0, 44, 1] : List Int)).2.1)) 26] a8 a7 := ax; clear ax
 have q := av (j.ownSmall 0 rfl); clear av
 refine bt aw j 5 [] [] [(4, .slice l (swriteS speed ([9, 0, 0] : List Int) 30 1).1.length n), (5, i6 (swriteS speed ([9, 0, 0] : List Int) 30 1).2)] ?_; intro bw ay; clear aw
 refine nlH (al _ _ ?_); clear al a1
 refine sqH ?_; intro az s
 refine s1 ay 19 (i6 (sreadS speed ([0, 44, 1] : List Int)).2.2) ?_; intro bx aA; clear ay
 refine s1 aA 20 (.bool ((sreadS speed ([0, 44, 1] : List Int)).2.2 == 0)) ?_; intro bz aB; clear aA
 refine s1 aB 21 (.bool ((sreadS speed ([0, 44, 1] : List Int)).2.2 == 0)) ?_; intro bA aC; clear aB
 have aD := aC.atom (((sreadS speed ([0, 44, 1] : List Int)).2.2 == 0) == true) (by kernel_rfl); clear aC
 refine gp aD 22 0 [] ((sreadS speed ([0, 44, 1] : List Int)).2.2 == 0) (i6 (swriteS speed ([9, 0, 0] : List Int) 30 1).2) rfl rfl ?_; intro bB aE; clear aD
 refine gp aE 23 0 [] ((sreadS speed ([0, 44, 1] : List Int)).2.2 == 0) (.bool ((swriteS speed ([9, 0, 0] : List Int) 30 1).2 == 0)) rfl rfl ?_; intro bC I; clear aE
 refine st I (.bool (((sreadS speed ([0, 44, 1] : List Int)).2.2 == 0) && ((swriteS speed ([9, 0, 0] : List Int) 30 1).2 == 0))) (nog rfl _) rfl (by kernel_rfl) (pk_and I (g := []) (m := 0) (b := (sreadS speed ([0, 44, 1] : List Int)).2.2 == 0) (v := (swriteS speed ([9, 0, 0] : List Int) 30 1).2 == 0) rfl (by kernel_rfl) (by kernel_rfl) (by kernel_rfl) rfl) ?_; intro bD aF; clear I
 refine s1 aF 25 (.bool (((sreadS speed ([0, 44, 1] : List Int)).2.2 == 0) && ((swriteS speed ([9, 0, 0] : List Int) 30 1).2 == 0))) ?_; intro bE aG; clear aF
 have aH := aG.atom ((((sreadS speed ([0, 44, 1] : List Int)).2.2 == 0) && ((swriteS speed ([9, 0, 0] : List Int) 30 1).2 == 0)) == true) (by kernel_rfl); clear aG
 refine gp aH 26 1 [] (((sreadS speed ([0, 44, 1] : List Int)).2.2 == 0) && ((swriteS speed ([9, 0, 0] : List Int) 30 1).2 == 0)) (i6 (sreadS speed ([0, 44, 1] : List Int)).1) rfl rfl ?_; intro bF aI; clear aH
 refine gp aI 27 1 [] (((sreadS speed ([0, 44, 1] : List Int)).2.2 == 0) && ((swriteS speed ([9, 0, 0] : List Int) 30 1).2 == 0)) (.bool ((sreadS speed ([0, 44, 1] : List Int)).1 == 300)) rfl rfl ?_; intro bG J; clear aI
 refine st J (.bool ((((sreadS speed ([0, 44, 1] : List Int)).2.2 == 0) && ((swriteS speed ([9, 0, 0] : List Int) 30 1).2 == 0)) && ((sreadS speed ([0, 44, 1] : List Int)).1 == 300))) (nog rfl _) rfl (by kernel_rfl) (pk_and J (g := []) (m := 1) (b := ((sreadS speed ([0, 44, 1] : List Int)).2.2 == 0) && ((swriteS speed ([9, 0, 0] : List Int) 30 1).2 == 0)) (v := (sreadS speed ([0, 44, 1] : List Int)).1 == 300) rfl (by kernel_rfl) (by kernel_rfl) (by kernel_rfl) rfl) ?_; intro bH aJ; clear J
 refine s1 aJ 29 (.bool ((((sreadS speed ([0, 44, 1] : List Int)).2.2 == 0) && ((swriteS speed ([9, 0, 0] : List Int) 30 1).2 == 0)) && ((sreadS speed ([0, 44, 1] : List Int)).1 == 300))) ?_; intro bI aK; clear aJ
 have L := aK.atom (((((sreadS speed ([0, 44, 1] : List Int)).2.2 == 0) && ((swriteS speed ([9, 0, 0] : List Int) 30 1).2 == 0)) && ((sreadS speed ([0, 44, 1] : List Int)).1 == 300)) == true) (by kernel_rfl); clear aK
 refine gd L (.agg (e26G ((sreadS speed ([0, 44, 1] : List Int)).2.1)).toArray) (m := 2) (cj := []) (bj := (((sreadS speed ([0, 44, 1] : List Int)).2.2 == 0) && ((swriteS speed ([9, 0, 0] : List Int) 30 1).2 == 0)) && ((sreadS speed ([0, 44, 1] : List Int)).1 == 300)) rfl rfl (by kernel_rfl) rfl (by kernel_rfl) (by kernel_rfl) (by kernel_rfl) (fun hg => lda L j 1 (g := [2]) (b := h) (off := 0) (k := 3) (cs := (e26G ((sreadS speed ([0, 44, 1] : List Int)).2.1))) (vs := (e26G ((sreadS speed ([0, 44, 1] : List Int)).2.1))) (ty := 26) rfl (by kernel_rfl) (by kernel_rfl) (by kernel_rfl) (by kernel_rfl) (by kernel_rfl) hg) ?_; intro bJ aL; clear L
 refine gp aL 31 2 [] ((((sreadS speed ([0, 44, 1] : List Int)).2.2 == 0) && ((swriteS speed ([9, 0, 0] : List Int) 30 1).2 == 0)) && ((sreadS speed ([0, 44, 1] : List Int)).1 == 300)) (.agg #[str ([115, 112, 101, 101, 100] : List UInt8), i6 30, i6 1]) rfl rfl ?_; intro bK M; clear aL
 refine gd M (.bool (((sreadS speed ([0, 44, 1] : List Int)).2.1.Name == ([115, 112, 101, 101, 100] : List UInt8)) && (((sreadS speed ([0, 44, 1] : List Int)).2.1.Num == 30) && (((sreadS speed ([0, 44, 1] : List Int)).2.1.Den == 1) && true)))) (m := 2) (cj := []) (bj := (((sreadS speed ([0, 44, 1] : List Int)).2.2 == 0) && ((swriteS speed ([9, 0, 0] : List Int) 30 1).2 == 0)) && ((sreadS speed ([0, 44, 1] : List Int)).1 == 300)) rfl rfl (by kernel_rfl) rfl (by kernel_rfl) (by kernel_rfl) (by kernel_rfl) (fun hg => eqs_run M (g := [2]) (xs := (e26G ((sreadS speed ([0, 44, 1] : List Int)).2.1)).toArray) (ys := #[str ([115, 112, 101, 101, 100] : List UInt8), i6 30, i6 1]) (b := ((sreadS speed ([0, 44, 1] : List Int)).2.1.Name == ([115, 112, 101, 101, 100] : List UInt8)) && (((sreadS speed ([0, 44, 1] : List Int)).2.1.Num == 30) && (((sreadS speed ([0, 44, 1] : List Int)).2.1.Den == 1) && true))) rfl (by kernel_rfl) (by kernel_rfl) (by kernel_rfl) (by kernel_rfl) hg) ?_; intro bL N; clear M
 refine st N (.bool (((((sreadS speed ([0, 44, 1] : List Int)).2.2 == 0) && ((swriteS speed ([9, 0, 0] : List Int) 30 1).2 == 0)) && ((sreadS speed ([0, 44, 1] : List Int)).1 == 300)) && (((sreadS speed ([0, 44, 1] : List Int)).2.1.Name == ([115, 112, 101, 101, 100] : List UInt8)) && (((sreadS speed ([0, 44, 1] : List Int)).2.1.Num == 30) && (((sreadS speed ([0, 44, 1] : List Int)).2.1.Den == 1) && true))))) (nog rfl _) rfl (by kernel_rfl) (pk_and N (g := []) (m := 2) (b := (((sreadS speed ([0, 44, 1] : List Int)).2.2 == 0) && ((swriteS speed ([9, 0, 0] : List Int) 30 1).2 == 0)) && ((sreadS speed ([0, 44, 1] : List Int)).1 == 300)) (v := ((sreadS speed ([0, 44, 1] : List Int)).2.1.Name == ([115, 112, 101, 101, 100] : List UInt8)) && (((sreadS speed ([0, 44, 1] : List Int)).2.1.Num == 30) && (((sreadS speed ([0, 44, 1] : List Int)).2.1.Den == 1) && true))) rfl (by kernel_rfl) (by kernel_rfl) (by kernel_rfl) rfl) ?_; intro bM aM; clear N
 refine s1 aM 34 (.bool (((((sreadS speed ([0, 44, 1] : List Int)).2.2 == 0) && ((swriteS speed ([9, 0, 0] : List Int) 30 1).2 == 0)) && ((sreadS speed ([0, 44, 1] : List Int)).1 == 300)) && (((sreadS speed ([0, 44, 1] : List Int)).2.1.Name == ([115, 112, 101, 101, 100] : List UInt8)) && (((sreadS speed ([0, 44, 1] : List Int)).2.1.Num == 30) && (((sreadS speed ([0, 44, 1] : List Int)).2.1.Den == 1) && true))))) ?_; intro bN t; clear aM
 rcases Bool.eq_false_or_eq_true (((((sreadS speed ([0, 44, 1] : List Int)).2.2 == 0) && ((swriteS speed ([9, 0, 0] : List Int) 30 1).2 == 0)) && ((sreadS speed ([0, 44, 1] : List Int)).1 == 300)) && (((sreadS speed ([0, 44, 1] : List Int)).2.1.Name == ([115, 112, 101, 101, 100] : List UInt8)) && (((sreadS speed ([0, 44, 1] : List Int)).2.1.Num == 30) && (((sreadS speed ([0, 44, 1] : List Int)).2.1.Den == 1) && true)))) with o | o
 · -- true
  have a9 := q.1 o; clear q
  have u := t.reval (d := 34) (c := []) (v := .bool (((((sreadS speed ([0, 44, 1] : List Int)).2.2 == 0) && ((swriteS speed ([9, 0, 0] : List Int) 30 1).2 == 0)) && ((sreadS speed ([0, 44, 1] : List Int)).1 == 300)) && (((sreadS speed ([0, 44, 1] : List Int)).2.1.Name == ([115, 112, 101, 101, 100] : List UInt8)) && (((sreadS speed ([0, 44, 1] : List Int)).2.1.Num == 30) && (((sreadS speed ([0, 44, 1] : List Int)).2.1.Den == 1) && true))))) (by kernel_rfl) (.bool true) (by rw [o]); clear t
  refine st u (.slice l (swriteS speed ([9, 0, 0] : List Int) 30 1).1.length n) (by rw [wanted_of u (b := true) rfl rfl (by kernel_rfl) (by kernel_rfl)]; rfl) rfl (by kernel_rfl) (p0 u (by kernel_rfl)) ?_; intro bO O; clear u
  refine sn O j (fun b => .slice (sm b) 3 3) [y8 9, y8 44, y8 1] 5 (by rw [wanted_of O (b := true) rfl rfl (by kernel_rfl) (by kernel_rfl)]; rfl) rfl (by kernel_rfl) (by kernel_rfl) ?_; intro y bP P Q ba; clear O j
  obtain ⟨aN, R, aO, S⟩ := ba.freeze 1 rfl
  replace f := f.mono R
  replace i := i.mono R
  replace a := Fz.le.trans a R
  have aP : Mem w.heap.size [] w Z [.row y [y8 9, y8 44, y8 1] 5, .row h (e26G ((sreadS speed ([0, 44, 1] : List Int)).2.1)) 26] aN P := aO; clear aO
  have bb : Mem w.heap.size [] w Z [.own t8 5 (sm y) 3 ([9, 44, 1] : List Int), .row h (e26G ((sreadS speed ([0, 44, 1] : List Int)).2.1)) 26] aN P := aP.rowOwn (T := t8) (xs := ([9, 44, 1] : List Int)) 0 rfl (by decide) (by show 3 ≤ lim; decide) ((RepAll.one (T := t8) (x := 9) rfl).append ((RepAll.one (T := t8) (x := 44) rfl).append (RepAll.one (T := t8) (x := 1) rfl))); clear aP
  obtain ⟨bc, z, aQ, bd⟩ := bb.freeze 0 rfl
  replace f := f.mono z
  replace i := i.mono z
  replace S := S.mono z
  replace a := Fz.le.trans a z
  have U : Mem w.heap.size [] w Z [.row h (e26G ((sreadS speed ([0, 44, 1] : List Int)).2.1)) 26] bc P := aQ; clear aQ
  refine fcl Q U (.bool (beqS (swriteS speed ([9, 0, 0] : List Int) 30 1).1 ([9, 44, 1] : List Int))) 15 #[.slice l (swriteS speed ([9, 0, 0] : List Int) 30 1).1.length n, .slice (sm y) ([9, 44, 1] : List Int).length 3] (by rw [wanted_of Q (b := true) rfl rfl (by kernel_rfl) (by kernel_rfl)]; rfl) rfl (by kernel_rfl) (fun _ => by kernel_rfl) (beq_fun (swriteS speed ([9, 0, 0] : List Int) 30 1).1 ([9, 44, 1] : List Int) l n (sm y) 3 _ _ S bd U.fz) ?_; intro bQ bR aR aS; clear Q U
  refine bt aR aS 2 [] [38] [(0, .bool (beqS (swriteS speed ([9, 0, 0] : List Int) 30 1).1 ([9, 44, 1] : List Int)))] ?_; intro bS be; clear aR
  refine nlH (s _ _ ?_); clear s az
  refine wp_ret ?_
  refine ra1 be (.bool (beqS (swriteS speed ([9, 0, 0] : List Int) 30 1).1 ([9, 44, 1] : List Int))) ?_
  exact ⟨(beqS (swriteS speed ([9, 0, 0] : List Int) 30 1).1 ([9, 44, 1] : List Int)), rfl, a9, aS.below⟩
 · -- false
  have bf := q.2 o; clear q
  have aT := t.reval (d := 34) (c := []) (v := .bool (((((sreadS speed ([0, 44, 1] : List Int)).2.2 == 0) && ((swriteS speed ([9, 0, 0] : List Int) 30 1).2 == 0)) && ((sreadS speed ([0, 44, 1] : List Int)).1 == 300)) && (((sreadS speed ([0, 44, 1] : List Int)).2.1.Name == ([115, 112, 101, 101, 100] : List UInt8)) && (((sreadS speed ([0, 44, 1] : List Int)).2.1.Num == 30) && (((sreadS speed ([0, 44, 1] : List Int)).2.1.Den == 1) && true))))) (by kernel_rfl) (.bool false) (by rw [o]); clear t
  refine bt aT j 5 [] [35, 36, 37, 38] [(0, .bool false)] ?_; intro bT bg; clear aT
  refine nlH (s _ _ ?_); clear s az
  refine wp_ret ?_
  refine ra1 bg (.bool false) ?_
  exact ⟨false, rfl, bf, j.below⟩

end Go.Proofs.YtdndfbamhnchfaaDoor
namespace Go.Proofs
open Go.Shelf
def Tryd.lays160_ren : Go.Shelf.Ren := ⟨fun | 160 => 60 | 232 => 92 | 231 => 91 | 227 => 93 | 234 => 95 | 233 => 94 | 236 => 97 | 235 => 96 | 228 => 112 | 271 => 115 | 151 => 114 | 197 => 113 | 120 => 131 | 152 => 130 | 260 => 129 | 137 => 140 | 119 => 141 | 224 => 142 | 225 => 143 | 217 => 145 | 266 => 146 | n => n, fun | 9 => 9 | 4 => 4 | 3 => 3 | 5 => 5 | 117 => 115 | 116 => 114 | 0 => 0 | 124 => 118 | 21 => 21 | 105 => 133 | 46 => 84 | 119 => 159 | 139 => 162 | 138 => 161 | n => n, fun | 3 => 0 | 4 => 1 | n => n⟩
theorem Tryd.lays160 : Go.Proofs.Lays.n160 Tryd.prog Tryd.lays160_ren := {
  mixed := by kernel_rfl
  f119 := Tryd.func141.trans (congrArg some (by kernel_rfl))
  f120 := Tryd.func131.trans (congrArg some (by kernel_rfl))
  f137 := Tryd.func140.trans (congrArg some (by kernel_rfl))
  f151 := Tryd.func114.trans (congrArg some (by kernel_rfl))
  f152 := Tryd.func130.trans (congrArg some (by kernel_rfl))
  f160 := Tryd.func60.trans (congrArg some (by kernel_rfl))
  f197 := Tryd.func113.trans (congrArg some (by kernel_rfl))
  f217 := Tryd.func145.trans (congrArg some (by kernel_rfl))
  f224 := Tryd.func142.trans (congrArg some (by kernel_rfl))
  f225 := Tryd.func143.trans (congrArg some (by kernel_rfl))
  f227 := Tryd.func93.trans (congrArg some (by kernel_rfl))
  f228 := Tryd.func112.trans (congrArg some (by kernel_rfl))
  f231 := Tryd.func91.trans (congrArg some (by kernel_rfl))
  f232 := Tryd.func92.trans (congrArg some (by kernel_rfl))
  f233 := Tryd.func94.trans (congrArg some (by kernel_rfl))
  f234 := Tryd.func95.trans (congrArg some (by kernel_rfl))
  f235 := Tryd.func96.trans (congrArg some (by kernel_rfl))
  f236 := Tryd.func97.trans (congrArg some (by kernel_rfl))
  f260 := Tryd.func129.trans (congrArg some (by kernel_rfl))
  f266 := Tryd.func146.trans (congrArg some (by kernel_rfl))
  f271 := Tryd.func115.trans (congrArg some (by kernel_rfl))
  t0 := Tryd.underlying0
  a0 := Tryd.isAgg0
  z0 := Tryd.sizeOf0
  v0 := Tryd.zeroValue0
  t3 := Tryd.underlying3
  a3 := Tryd.isAgg3
  z3 := Tryd.sizeOf3
  v3 := Tryd.zeroValue3
  t4 := Tryd.underlying4
  a4 := Tryd.isAgg4
  z4 := Tryd.sizeOf4
  v4 := Tryd.zeroValue4
  t5 := Tryd.underlying5
  a5 := Tryd.isAgg5
  z5 := Tryd.sizeOf5
  v5 := Tryd.zeroValue5
  t9 := Tryd.underlying9
  a9 := Tryd.isAgg9
  z9 := Tryd.sizeOf9
  v9 := Tryd.zeroValue9
  t21 := Tryd.underlying21
  a21 := Tryd.isAgg21
  z21 := Tryd.sizeOf21
  v21 := Tryd.zeroValue21
  t46 := Tryd.underlying84
  a46 := Tryd.isAgg84
  z46 := Tryd.sizeOf84
  v46 := Tryd.zeroValue84
  t105 := Tryd.underlying133
  a105 := Tryd.isAgg133
  z105 := Tryd.sizeOf133
  v105 := Tryd.zeroValue133
  t116 := Tryd.underlying114
  a116 := Tryd.isAgg114
  z116 := Tryd.sizeOf114
  t117 := Tryd.underlying115
  a117 := Tryd.isAgg115
  z117 := Tryd.sizeOf115
  v117 := Tryd.zeroValue115
  t119 := Tryd.underlying159
  a119 := Tryd.isAgg159
  z119 := Tryd.sizeOf159
  t124 := Tryd.underlying118
  a124 := Tryd.isAgg118
  z124 := Tryd.sizeOf118
  v124 := Tryd.zeroValue118
  t138 := Tryd.underlying161
  a138 := Tryd.isAgg161
  z138 := Tryd.sizeOf161
  v138 := Tryd.zeroValue161
  t139 := Tryd.underlying162
  a139 := Tryd.isAgg162
  z139 := Tryd.sizeOf162
  v139 := Tryd.zeroValue162
  g3 := by kernel_rfl
  g4 := by kernel_rfl }
end Go.Proofs
set_option linter.unusedVariables false
set_option linter.unusedSimpArgs false
set_option maxRecDepth 100000
set_option maxHeartbeats 0
namespace Go.Proofs.YtdndfbamhnchfaaDoor
open Go.Sy Go.RowKit
abbrev e23P (X : Signal) : List Value := [str X.Name, i6 X.Start, i6 X.Size, .bool X.Back, .bool X.Signed, i6 X.Mul, i6 X.Div, i6 X.Add, i6 X.Key]
theorem sindex_walk (u0 : List Int) (u1 : Int) (ao1 : Option Addr) (cap2 : Nat) (Z : Fz) (w : World) (hs3 : SlR t6 Z ao1 cap2 u0) (hZ : Z.on w) {K : Int → Prop} (hp : sindex_vc u0 u1 K) : Calls Tryd.prog 102 #[.slice ao1 u0.length cap2, i6 u1] w fun e w' => ∃ r : Int, e = .returned (i6 r) ∧ K r ∧ Below w.heap.size w w' := by
 refine enter0 Tryd.func102 rfl rfl (by kernel_rfl) ?_; intro a0 m; have g := Mem.start w Z hZ; have ad := Fz.le.refl Z
 have G := hp (hs3.small); clear hp
 refine sqB m g [] [] [] ?_; intro a6 n; clear m
 refine wp_seq ?_
 refine sqB n g [] [] [(7, i6 (u0.length : Int)), (8, i6 0)] ?_; intro o p; clear n
 refine wp_block ?_
 have q : Fr 19 [] [⟨0, [], .slice ao1 u0.length cap2⟩, ⟨1, [], i6 u1⟩, ⟨7, [], i6 (u0.length : Int)⟩, ⟨8, [], i6 0⟩] o := p.region (by kernel_rfl) (by kernel_rfl); clear p
 have u : Fr 19 [] [⟨0, [], .slice ao1 u0.length cap2⟩, ⟨1, [], i6 u1⟩, ⟨7, [], i6 (u0.length : Int)⟩, ⟨8, [], i6 0⟩] o := q.region (by kernel_rfl) (by kernel_rfl); clear q
 obtain ⟨H, I, J, L⟩ := G
 refine lp (ι := Int) (fun s => [⟨0, [], .slice ao1 u0.length cap2⟩, ⟨1, [], i6 u1⟩, ⟨7, [], i6 (u0.length : Int)⟩, ⟨8, [], i6 s⟩]) (fun s => []) (fun s => Z) (fun s => H s) (fun s => I s) 0 J (by exact u.region (by kernel_rfl) (by kernel_rfl)) (by exact g) ?_
 rintro a M N O v x
 have y : Fr 19 [] [⟨0, [], .slice ao1 u0.length cap2⟩, ⟨1, [], i6 u1⟩, ⟨7, [], i6 (u0.length : Int)⟩, ⟨8, [], i6 a⟩] N := v; clear v u
 have b : Mem w.heap.size [] w Z [] Z O := x; clear x g
 have h := L a M
 refine sqB y b [] [] [(9, .bool (decide (a < (u0.length : Int))))] ?_; intro ae c; clear y
 refine wp_seq ?_
 refine cd c (t := decide (a < (u0.length : Int))) (by kernel_rfl) (fun j => ?_) (fun j => ?_)
 · -- yes
  have P := h.1 j; clear h
  refine wp_skip ?_
  refine thn ?_
  refine wp_seq ?_
  refine wp_block ?_
  refine sqB c b [] [] [(5, i6 a)] ?_; intro af z; clear c
  refine sqH ?_; intro Q A
  refine bt z b 3 [] [] [(11, i6 u1), (12, .slice ao1 u0.length cap2), (13, i6 a)] ?_; intro ag B; clear z
  obtain ⟨R, C⟩ := P
  refine ix B (T := t6) (xs := u0) hs3 a R (k := .i64) (e := 3) (bytes := 8) (nog rfl _) rfl (by kernel_rfl) rfl (by kernel_rfl) (by kernel_rfl) (by kernel_rfl) ?_; intro ah ai S d aj U V W D; clear B
  have i := C d U; clear C
  obtain rfl : S = ([i6 d] : List Value) := W
  refine z1 D b 15 V 0 (i6 d) rfl ?_; intro ak E; clear D
  refine s1 E 16 (.bool (u1 == d)) ?_; intro al f; clear E
  refine nlH (A _ _ ?_); clear A Q
  refine cd f (t := u1 == d) (by kernel_rfl) (fun l => ?_) (fun l => ?_)
  · -- yes
   have X := i.1 l; clear i
   refine sqB f b [] [] [(4, i6 a)] ?_; intro am Y; clear f
   refine wp_ret ?_
   refine ibr ?_
   refine thr ?_
   refine thr ?_
   refine ibr ?_
   refine thr ?_
   refine ra1 Y (i6 a) ?_
   exact ⟨a, rfl, X, b.below⟩
  · -- no
   have F := i.2 l; clear i
   refine wp_skip ?_
   refine ibn ?_
   refine thn ?_
   refine rgB f b [] [] [(8, i6 (w64 (a + 1)))] ?_; intro an aa; clear f
   refine rd ?_
   exact ⟨w64 (a + 1), F.1, F.2, (aa.region (by kernel_rfl) (by kernel_rfl)).anyβ _ (by kernel_rfl), b.keep (List.Sublist.slnil)⟩
 · -- no
  have ab := h.2 j; clear h
  refine wp_exit ?_
  refine thx ?_
  refine thx ?_
  refine ibx ?_
  refine thn ?_
  refine sqB c b [] [] [(4, i6 (-1))] ?_; intro ao ac; clear c
  refine wp_ret ?_
  refine ra1 ac (i6 (-1)) ?_
  exact ⟨-1, rfl, ab, b.below⟩

theorem scontains_walk (u0 : List Int) (u1 : Int) (ao1 : Option Addr) (cap2 : Nat) (Z : Fz) (w : World) (hs3 : SlR t6 Z ao1 cap2 u0) (hZ : Z.on w) {K : Bool → Prop} (hp : scontains_vc u0 u1 K) : Calls Tryd.prog 65 #[.slice ao1 u0.length cap2, i6 u1] w fun e w' => ∃ r : Bool, e = .returned (.bool r) ∧ K r ∧ Below w.heap.size w w' := by
 refine enter0 Tryd.func65 rfl rfl (by kernel_rfl) ?_; intro n c; have a := Mem.start w Z hZ; have o := Fz.le.refl Z
 have j := hp (hs3.small); clear hp
 refine sqB c a [] [] [] ?_; intro p d; clear c
 refine sqH ?_; intro k f
 refine bt d a 2 [] [] [(5, .slice ao1 u0.length cap2), (6, i6 u1)] ?_; intro q g; clear d
 refine ck g 102 #[.slice ao1 u0.length cap2, i6 u1] ?_
 refine (sindex_walk u0 u1 ao1 cap2 _ _ hs3 a.fz j).mono ?_; rintro _ s ⟨b, rfl, l, hb⟩; refine ⟨_, rfl, ?_⟩; intro t h; have i := a.call hb; clear hb a g
 refine bt h i 2 [] [] [(4, .bool (decide (b ≥ 0)))] ?_; intro u m; clear h
 refine nlH (f _ _ ?_); clear f k
 refine wp_ret ?_
 refine ra1 m (.bool (decide (b ≥ 0))) ?_
 exact ⟨decide (b ≥ 0), rfl, l, i.below⟩

theorem iidxf_walk (u0 : List Int) (u1 : Int → Bool) (ao1 : Option Addr) (cap2 : Nat) (fid4 : Nat) (caps5 : Array Value) (Z : Fz) (w : World) (hs3 : SlR t6 Z ao1 cap2 u0) (hf6 : ∀ (Z1 : Fz) (w1 : World), Z.le Z1 → Z1.on w1 → ∀ (x0 : Int), Calls Tryd.prog fid4 (#[i6 x0] ++ caps5) w1 fun e w2 => e = .returned (.bool (u1 x0)) ∧ Below w1.heap.size w1 w2) (hg7 : ∀ x w, Sem.run Tryd.prog (callFunc fid4 x) w = .ok (.enter fid4 x) w) (hZ : Z.on w) {K : Int → Prop} (hp : iidxf_vc u0 u1 K) : Calls Tryd.prog 101 #[.slice ao1 u0.length cap2, .func (.func fid4) #[] caps5] w fun e w' => ∃ r : Int, e = .returned (i6 r) ∧ K r ∧ Below w.heap.size w w' := by
 refine enter0 Tryd.func101 rfl rfl (by kernel_rfl) ?_; intro a0 n; have g := Mem.start w Z hZ; have I := Fz.le.refl Z
 have J := hp (hs3.small); clear hp
 refine sqB n g [] [] [] ?_; intro ah o; clear n
 refine wp_seq ?_
 refine sqB o g [] [] [(7, i6 (u0.length : Int)), (8, i6 0)] ?_; intro p q; clear o
 refine wp_block ?_
 have u : Fr 19 [] [⟨0, [], .slice ao1 u0.length cap2⟩, ⟨1, [], .func (.func fid4) #[] caps5⟩, ⟨7, [], i6 (u0.length : Int)⟩, ⟨8, [], i6 0⟩] p := q.region (by kernel_rfl) (by kernel_rfl); clear q
 have v : Fr 19 [] [⟨0, [], .slice ao1 u0.length cap2⟩, ⟨1, [], .func (.func fid4) #[] caps5⟩, ⟨7, [], i6 (u0.length : Int)⟩, ⟨8, [], i6 0⟩] p := u.region (by kernel_rfl) (by kernel_rfl); clear u
 obtain ⟨L, M, N, O⟩ := J
 refine lp (ι := Int) (fun s => [⟨0, [], .slice ao1 u0.length cap2⟩, ⟨1, [], .func (.func fid4) #[] caps5⟩, ⟨7, [], i6 (u0.length : Int)⟩, ⟨8, [], i6 s⟩]) (fun s => []) (fun s => Z) (fun s => L s) (fun s => M s) 0 N (by exact v.region (by kernel_rfl) (by kernel_rfl)) (by exact g) ?_
 rintro a P Q R y z
 have A : Fr 19 [] [⟨0, [], .slice ao1 u0.length cap2⟩, ⟨1, [], .func (.func fid4) #[] caps5⟩, ⟨7, [], i6 (u0.length : Int)⟩, ⟨8, [], i6 a⟩] Q := y; clear y v
 have b : Mem w.heap.size [] w Z [] Z R := z; clear z g
 have h := O a P
 refine sqB A b [] [] [(9, .bool (decide (a < (u0.length : Int))))] ?_; intro ai d; clear A
 refine wp_seq ?_
 refine cd d (t := decide (a < (u0.length : Int))) (by kernel_rfl) (fun l => ?_) (fun l => ?_)
 · -- yes
  have S := h.1 l; clear h
  refine wp_skip ?_
  refine thn ?_
  refine wp_seq ?_
  refine wp_block ?_
  refine sqB d b [] [] [(5, i6 a)] ?_; intro aj B; clear d
  refine sqH ?_; intro U C
  refine bt B b 3 [] [] [(11, .func (.func fid4) #[] caps5), (12, .slice ao1 u0.length cap2), (13, i6 a)] ?_; intro ak D; clear B
  obtain ⟨V, E⟩ := S
  refine ix D (T := t6) (xs := u0) hs3 a V (k := .i64) (e := 3) (bytes := 8) (nog rfl _) rfl (by kernel_rfl) rfl (by kernel_rfl) (by kernel_rfl) (by kernel_rfl) ?_; intro al am W c an X Y aa F; clear D
  have i := E c X; clear E
  obtain rfl : W = ([i6 c] : List Value) := aa
  refine z1 F b 15 Y 0 (i6 c) rfl ?_; intro ao G; clear F
  have ab := hf6 _ _ I b.fz c
  refine fcl G b (.bool (u1 c)) fid4 (#[i6 c] ++ caps5) (nog rfl _) rfl (by kernel_rfl) ?h1 ?h2 ?_
  case h1 => exact fv_run rfl (by kernel_rfl) (by kernel_rfl) hg7
  case h2 => exact ab
  intro ap aq f j; clear G b
  refine nlH (C _ _ ?_); clear C U
  refine cd f (t := (u1 c)) (by kernel_rfl) (fun m => ?_) (fun m => ?_)
  · -- yes
   have ac := i.1 m; clear i
   refine sqB f j [] [] [(4, i6 a)] ?_; intro ar ad; clear f
   refine wp_ret ?_
   refine ibr ?_
   refine thr ?_
   refine thr ?_
   refine ibr ?_
   refine thr ?_
   refine ra1 ad (i6 a) ?_
   exact ⟨a, rfl, ac, j.below⟩
  · -- no
   have H := i.2 m; clear i
   refine wp_skip ?_
   refine ibn ?_
   refine thn ?_
   refine rgB f j [] [] [(8, i6 (w64 (a + 1)))] ?_; intro au ae; clear f
   refine rd ?_
   exact ⟨w64 (a + 1), H.1, H.2, (ae.region (by kernel_rfl) (by kernel_rfl)).anyβ _ (by kernel_rfl), j.keep (List.Sublist.slnil)⟩
 · -- no
  have af := h.2 l; clear h
  refine wp_exit ?_
  refine thx ?_
  refine thx ?_
  refine ibx ?_
  refine thn ?_
  refine sqB d b [] [] [(4, i6 (-1))] ?_; intro av ag; clear d
  refine wp_ret ?_
  refine ra1 ag (i6 (-1)) ?_
  exact ⟨-1, rfl, af, b.below⟩

theorem icontf_walk (u0 : List Int) (u1 : Int → Bool) (ao1 : Option Addr) (cap2 : Nat) (fid4 : Nat) (caps5 : Array Value) (Z : Fz) (w : World) (hs3 : SlR t6 Z ao1 cap2 u0) (hf6 : ∀ (Z1 : Fz) (w1 : World), Z.le Z1 → Z1.on w1 → ∀ (x0 : Int), Calls Tryd.prog fid4 (#[i6 x0] ++ caps5) w1 fun e w2 => e = .returned (.bool (u1 x0)) ∧ Below w1.heap.size w1 w2) (hg7 : ∀ x w, Sem.run Tryd.prog (callFunc fid4 x) w = .ok (.enter fid4 x) w) (hZ : Z.on w) {K : Bool → Prop} (hp : icontf_vc u0 u1 K) : Calls Tryd.prog 63 #[.slice ao1 u0.length cap2, .func (.func fid4) #[] caps5] w fun e w' => ∃ r : Bool, e = .returned (.bool r) ∧ K r ∧ Below w.heap.size w w' := by
 refine enter0 Tryd.func63 rfl rfl (by kernel_rfl) ?_; intro o c; have a := Mem.start w Z hZ; have j := Fz.le.refl Z
 have k := hp (hs3.small); clear hp
 refine sqB c a [] [] [] ?_; intro p d; clear c
 refine sqH ?_; intro l f
 refine bt d a 2 [] [] [(5, .slice ao1 u0.length cap2), (6, .func (.func fid4) #[] caps5)] ?_; intro q g; clear d
 refine ck g 101 #[.slice ao1 u0.length cap2, .func (.func fid4) #[] caps5] ?_
 refine (iidxf_walk u0 u1 ao1 cap2 fid4 caps5 _ _ hs3 (fun Z1 w1 h1 h2 => hf6 Z1 w1 (j.trans h1) h2) hg7 a.fz k).mono ?_; rintro _ s ⟨b, rfl, m, hb⟩; refine ⟨_, rfl, ?_⟩; intro t h; have i := a.call hb; clear hb a g
 refine bt h i 2 [] [] [(4, .bool (decide (b ≥ 0)))] ?_; intro u n; clear h
 refine nlH (f _ _ ?_); clear f l
 refine wp_ret ?_
 refine ra1 n (.bool (decide (b ≥ 0))) ?_
 exact ⟨decide (b ≥ 0), rfl, m, i.below⟩

theorem rplaces_walk (u0 : Signal)  (Z : Fz) (w : World)  (hZ : Z.on w) {K : (List Int) → Prop} (hp : rplaces_vc u0 K) : Calls Tryd.prog 25 #[.agg #[str u0.Name, i6 u0.Start, i6 u0.Size, .bool u0.Back, .bool u0.Signed, i6 u0.Mul, i6 u0.Div, i6 u0.Add, i6 u0.Key]] w fun e w' => ∃ (r : (List Int)) (ao1001 : Option Addr) (cap1002 : Nat) (Z' : Fz), e = .returned (.slice ao1001 r.length cap1002) ∧ K r ∧ Mem w.heap.size [] w Z [.own t6 3 ao1001 cap1002 r] Z' w' := by
 refine enter0 Tryd.func25 rfl rfl (by kernel_rfl) ?_; intro a0 C; have D := Mem.start w Z hZ; have bb := Fz.le.refl Z
 refine sqH ?_; intro av E
 refine nw C D pb (e23P u0) 23 ?_; intro f a3 bc F x; clear C D
 refine s1 F 2 (.slice none 0 0) ?_; intro a7 G; clear F
 refine nlH (E _ _ ?_); clear E av
 refine sqH ?_; intro aw H
 refine bt G x 2 [0] [] [(9, i6 u0.Size)] ?_; intro bd I; clear G
 obtain ⟨be, n⟩ := hp
 refine mks I x (T := t6) u0.Size u0.Size (k := .i64) (k' := .i64) (e := 3) (bytes := 8) (zs := [i6 0]) (z := 0) (by simp only [lim]; omega) (nog rfl _) rfl (by kernel_rfl) rfl (by kernel_rfl) (by kernel_rfl) (by kernel_rfl) (by kernel_rfl) rfl ?_; intro b bf ax J L; clear I x
 have h : Mem w.heap.size [] w Z [.own t6 3 (sm b) u0.Size.toNat (List.replicate u0.Size.toNat (0 : Int)), .row f (e23P u0) 23] Z ax := L; clear L
 refine s1 J 3 (.slice (sm b) (List.replicate u0.Size.toNat (0 : Int)).length u0.Size.toNat) ?_; intro bg M; clear J
 refine nlH (H _ _ ?_); clear H aw
 refine wp_seq ?_
 refine sqB M h [1] [] [(13, .bool (!u0.Back))] ?_; intro bh j; clear M
 refine cd j (t := !u0.Back) (by kernel_rfl) (fun y => ?_) (fun y => ?_)
 · -- yes
  have ay := n.1 y; clear n
  refine wp_seq ?_
  refine sqB j h [] [] [(15, i6 ((List.replicate u0.Size.toNat (0 : Int)).length : Int)), (16, i6 0)] ?_; intro N O; clear j
  refine wp_block ?_
  have P : Fr 61 [] [⟨1, [], pt f 0⟩, ⟨3, [], .slice (sm b) (List.replicate u0.Size.toNat (0 : Int)).length u0.Size.toNat⟩, ⟨15, [], i6 ((List.replicate u0.Size.toNat (0 : Int)).length : Int)⟩, ⟨16, [], i6 0⟩] N := O.region (by kernel_rfl) (by kernel_rfl); clear O
  have Q : Fr 61 [] [⟨1, [], pt f 0⟩, ⟨3, [], .slice (sm b) (List.replicate u0.Size.toNat (0 : Int)).length u0.Size.toNat⟩, ⟨15, [], i6 ((List.replicate u0.Size.toNat (0 : Int)).length : Int)⟩, ⟨16, [], i6 0⟩] N := P.region (by kernel_rfl) (by kernel_rfl); clear P
  obtain ⟨az, aA, aB, aC⟩ := ay
  refine lp (ι := Int × (List Int)) (fun s => [⟨1, [], pt f 0⟩, ⟨3, [], .slice (sm b) s.2.length u0.Size.toNat⟩, ⟨15, [], i6 ((List.replicate u0.Size.toNat (0 : Int)).length : Int)⟩, ⟨16, [], i6 s.1⟩]) (fun s => [.own t6 3 (sm b) u0.Size.toNat s.2, .row f (e23P u0) 23]) (fun s => Z) (fun s => az s.1 s.2) (fun s => aA s.1 s.2) ⟨0, (List.replicate u0.Size.toNat (0 : Int))⟩ aB (by exact Q.region (by kernel_rfl) (by kernel_rfl)) (by exact h) ?_
  rintro ⟨c, d⟩ aD aE aF R S
  have U : Fr 61 [] [⟨1, [], pt f 0⟩, ⟨3, [], .slice (sm b) d.length u0.Size.toNat⟩, ⟨15, [], i6 ((List.replicate u0.Size.toNat (0 : Int)).length : Int)⟩, ⟨16, [], i6 c⟩] aE := R; clear R Q
  have i : Mem w.heap.size [] w Z [.own t6 3 (sm b) u0.Size.toNat d, .row f (e23P u0) 23] Z aF := S; clear S h
  have o := aC c d aD
  refine sqB U i [] [] [(17, .bool (decide (c < ((List.replicate u0.Size.toNat (0 : Int)).length : Int))))] ?_; intro bi l; clear U
  refine wp_seq ?_
  refine cd l (t := decide (c < ((List.replicate u0.Size.toNat (0 : Int)).length : Int))) (by kernel_rfl) (fun A => ?_) (fun A => ?_)
  · -- yes
   have aG := o.1 A; clear o
   refine wp_skip ?_
   refine thn ?_
   refine wp_seq ?_
   refine wp_block ?_
   refine sqB l i [] [] [(4, i6 c)] ?_; intro bj V; clear l
   refine rgH ?_; intro aH W
   refine bt V i 6 [1] [] [(19, .slice (sm b) d.length u0.Size.toNat), (20, i6 c), (24, i6 (w64 (u0.Start + c)))] ?_; intro bk X; clear V
   obtain ⟨aI, Y⟩ := aG
   refine ixo X i 0 (T := t6) (xs := d) c aI (k := .i64) (e := 3) (bytes := 8) (nog rfl _) rfl (by kernel_rfl) rfl (by kernel_rfl) (by kernel_rfl) rfl (by kernel_rfl) ?_; intro aJ aK aL p; clear X
   obtain rfl : b = aJ := by simpa using aL
   refine so p i 0 (T := t6) (xs := d) c.toNat (w64 (u0.Start + c)) (u := i6 (w64 (u0.Start + c))) (nog rfl _) rfl rfl (by kernel_rfl) rfl (by kernel_rfl) rfl (by kernel_rfl) (by first | omega | (simp only [List.length_set] at *; omega)) rfl ?_; intro aM aa; clear i
   have ab : Fr 61 [] [⟨1, [], pt f 0⟩, ⟨3, [], .slice (sm b) (d.set c.toNat (w64 (u0.Start + c))).length u0.Size.toNat⟩, ⟨4, [], i6 c⟩, ⟨15, [], i6 ((List.replicate u0.Size.toNat (0 : Int)).length : Int)⟩, ⟨16, [], i6 c⟩, ⟨17, [], .bool (decide (c < ((List.replicate u0.Size.toNat (0 : Int)).length : Int)))⟩, ⟨19, [], .slice (sm b) (d.set c.toNat (w64 (u0.Start + c))).length u0.Size.toNat⟩, ⟨20, [], i6 c⟩, ⟨24, [], i6 (w64 (u0.Start + c))⟩, ⟨25, [], .pointer (some ⟨b, c.toNat * 1, none⟩)⟩] aK := by (try simp only [List.length_set] at p); (try simp only [List.length_set]); exact p.region (by kernel_rfl) (by kernel_rfl)
   clear p
   have ac : Mem w.heap.size [] w Z [.own t6 3 (sm b) u0.Size.toNat (d.set c.toNat (w64 (u0.Start + c))), .row f (e23P u0) 23] Z aM := aa; clear aa
   refine nlH (W _ _ ?_); clear W aH
   refine ibn ?_
   refine thn ?_
   refine rgB ab ac [] [] [(16, i6 (w64 (c + 1)))] ?_; intro bl aN; clear ab
   refine rd ?_
   exact ⟨⟨w64 (c + 1), d.set c.toNat (w64 (u0.Start + c))⟩, Y.1, Y.2, (aN.region (by kernel_rfl) (by kernel_rfl)).anyβ _ (by kernel_rfl), ac.keep (List.Sublist.cons_cons _ (List.Sublist.cons_cons _ (List.Sublist.slnil)))⟩
  · -- no
   have aO := o.2 A; clear o
   refine wp_exit ?_
   refine thx ?_
   refine thx ?_
   refine ibx ?_
   refine thn ?_
   refine sqB l i [] [] [(2, .slice (sm b) d.length u0.Size.toNat)] ?_; intro bm aP; clear l
   refine wp_ret ?_
   refine thr ?_
   refine ra1 aP (.slice (sm b) d.length u0.Size.toNat) ?_
   exact ⟨d, (sm b), u0.Size.toNat, Z, rfl, aO, i.keep (List.Sublist.cons_cons _ (List.Sublist.cons _ (List.Sublist.slnil)))⟩
 · -- no
  have aQ := n.2 y; clear n
  refine wp_skip ?_
  refine thn ?_
  refine sqB j h [1, 1] [] [(5, i6 (w64 ((w64 ((w64 ((w64 (u0.Start.tdiv 8)) * 8)) + 7)) - (u0.Start.tmod 8))))] ?_; intro bn ad; clear j
  refine wp_seq ?_
  refine sqB ad h [] [] [(38, i6 ((List.replicate u0.Size.toNat (0 : Int)).length : Int)), (39, i6 0)] ?_; intro ae af; clear ad
  refine wp_block ?_
  have ag : Fr 61 [] [⟨1, [], pt f 0⟩, ⟨3, [], .slice (sm b) (List.replicate u0.Size.toNat (0 : Int)).length u0.Size.toNat⟩, ⟨5, [], i6 (w64 ((w64 ((w64 ((w64 (u0.Start.tdiv 8)) * 8)) + 7)) - (u0.Start.tmod 8)))⟩, ⟨38, [], i6 ((List.replicate u0.Size.toNat (0 : Int)).length : Int)⟩, ⟨39, [], i6 0⟩] ae := af.region (by kernel_rfl) (by kernel_rfl); clear af
  have ah : Fr 61 [] [⟨1, [], pt f 0⟩, ⟨3, [], .slice (sm b) (List.replicate u0.Size.toNat (0 : Int)).length u0.Size.toNat⟩, ⟨5, [], i6 (w64 ((w64 ((w64 ((w64 (u0.Start.tdiv 8)) * 8)) + 7)) - (u0.Start.tmod 8)))⟩, ⟨38, [], i6 ((List.replicate u0.Size.toNat (0 : Int)).length : Int)⟩, ⟨39, [], i6 0⟩] ae := ag.region (by kernel_rfl) (by kernel_rfl); clear ag
  obtain ⟨aR, aS, aT, aU⟩ := aQ
  refine lp (ι := Int × (List Int)) (fun s => [⟨1, [], pt f 0⟩, ⟨3, [], .slice (sm b) s.2.length u0.Size.toNat⟩, ⟨5, [], i6 (w64 ((w64 ((w64 ((w64 (u0.Start.tdiv 8)) * 8)) + 7)) - (u0.Start.tmod 8)))⟩, ⟨38, [], i6 ((List.replicate u0.Size.toNat (0 : Int)).length : Int)⟩, ⟨39, [], i6 s.1⟩]) (fun s => [.own t6 3 (sm b) u0.Size.toNat s.2, .row f (e23P u0) 23]) (fun s => Z) (fun s => aR s.1 s.2) (fun s => aS s.1 s.2) ⟨0, (List.replicate u0.Size.toNat (0 : Int))⟩ aT (by exact ah.region (by kernel_rfl) (by kernel_rfl)) (by exact h) ?_
  rintro ⟨a, d⟩ aV aW aX ai aj
  have ak : Fr 61 [] [⟨1, [], pt f 0⟩, ⟨3, [], .slice (sm b) d.length u0.Size.toNat⟩, ⟨5, [], i6 (w64 ((w64 ((w64 ((w64 (u0.Start.tdiv 8)) * 8)) + 7)) - (u0.Start.tmod 8)))⟩, ⟨38, [], i6 ((List.replicate u0.Size.toNat (0 : Int)).length : Int)⟩, ⟨39, [], i6 a⟩] aW := ai; clear ai ah
  have g : Mem w.heap.size [] w Z [.own t6 3 (sm b) u0.Size.toNat d, .row f (e23P u0) 23] Z aX := aj; clear aj h
  have q := aU a d aV
  refine sqB ak g [] [] [(40, .bool (decide (a < ((List.replicate u0.Size.toNat (0 : Int)).length : Int))))] ?_; intro bo m; clear ak
  refine wp_seq ?_
  refine cd m (t := decide (a < ((List.replicate u0.Size.toNat (0 : Int)).length : Int))) (by kernel_rfl) (fun B => ?_) (fun B => ?_)
  · -- yes
   have aY := q.1 B; clear q
   refine wp_skip ?_
   refine thn ?_
   refine wp_seq ?_
   refine wp_block ?_
   refine sqB m g [] [] [(6, i6 a)] ?_; intro bp al; clear m
   refine sqB al g [1] [] [(7, i6 (w64 ((w64 ((w64 ((w64 ((w64 ((w64 ((w64 (u0.Start.tdiv 8)) * 8)) + 7)) - (u0.Start.tmod 8))) + u0.Size)) - 1)) - a)))] ?_; intro bq am; clear al
   refine rgH ?_; intro aZ an
   refine bt am g 9 [] [] [(49, .slice (sm b) d.length u0.Size.toNat), (50, i6 a), (57, i6 (w64 ((w64 ((w64 ((w64 ((w64 ((w64 ((w64 ((w64 ((w64 ((w64 ((w64 (u0.Start.tdiv 8)) * 8)) + 7)) - (u0.Start.tmod 8))) + u0.Size)) - 1)) - a)).tdiv 8)) * 8)) + 7)) - ((w64 ((w64 ((w64 ((w64 ((w64 ((w64 ((w64 (u0.Start.tdiv 8)) * 8)) + 7)) - (u0.Start.tmod 8))) + u0.Size)) - 1)) - a)).tmod 8))))] ?_; intro br ao; clear am
   obtain ⟨a1, ap⟩ := aY
   refine ixo ao g 0 (T := t6) (xs := d) a a1 (k := .i64) (e := 3) (bytes := 8) (nog rfl _) rfl (by kernel_rfl) rfl (by kernel_rfl) (by kernel_rfl) rfl (by kernel_rfl) ?_; intro a2 a4 a5 v; clear ao
   obtain rfl : b = a2 := by simpa using a5
   refine so v g 0 (T := t6) (xs := d) a.toNat (w64 ((w64 ((w64 ((w64 ((w64 ((w64 ((w64 ((w64 ((w64 ((w64 ((w64 (u0.Start.tdiv 8)) * 8)) + 7)) - (u0.Start.tmod 8))) + u0.Size)) - 1)) - a)).tdiv 8)) * 8)) + 7)) - ((w64 ((w64 ((w64 ((w64 ((w64 ((w64 ((w64 (u0.Start.tdiv 8)) * 8)) + 7)) - (u0.Start.tmod 8))) + u0.Size)) - 1)) - a)).tmod 8))) (u := i6 (w64 ((w64 ((w64 ((w64 ((w64 ((w64 ((w64 ((w64 ((w64 ((w64 ((w64 (u0.Start.tdiv 8)) * 8)) + 7)) - (u0.Start.tmod 8))) + u0.Size)) - 1)) - a)).tdiv 8)) * 8)) + 7)) - ((w64 ((w64 ((w64 ((w64 ((w64 ((w64 ((w64 (u0.Start.tdiv 8)) * 8)) + 7)) - (u0.Start.tmod 8))) + u0.Size)) - 1)) - a)).tmod 8)))) (nog rfl _) rfl rfl (by kernel_rfl) rfl (by kernel_rfl) rfl (by kernel_rfl) (by first | omega | (simp only [List.length_set] at *; omega)) rfl ?_; intro a6 aq; clear g
   have ar : Fr 61 [] [⟨1, [], pt f 0⟩, ⟨3, [], .slice (sm b) (d.set a.toNat (w64 ((w64 ((w64 ((w64 ((w64 ((w64 ((w64 ((w64 ((w64 ((w64 ((w64 (u0.Start.tdiv 8)) * 8)) + 7)) - (u0.Start.tmod 8))) + u0.Size)) - 1)) - a)).tdiv 8)) * 8)) + 7)) - ((w64 ((w64 ((w64 ((w64 ((w64 ((w64 ((w64 (u0.Start.tdiv 8)) * 8)) + 7)) - (u0.Start.tmod 8))) + u0.Size)) - 1)) - a)).tmod 8)))).length u0.Size.toNat⟩, ⟨5, [], i6 (w64 ((w64 ((w64 ((w64 (u0.Start.tdiv 8)) * 8)) + 7)) - (u0.Start.tmod 8)))⟩, ⟨6, [], i6 a⟩, ⟨7, [], i6 (w64 ((w64 ((w64 ((w64 ((w64 ((w64 ((w64 (u0.Start.tdiv 8)) * 8)) + 7)) - (u0.Start.tmod 8))) + u0.Size)) - 1)) - a))⟩, ⟨38, [], i6 ((List.replicate u0.Size.toNat (0 : Int)).length : Int)⟩, ⟨39, [], i6 a⟩, ⟨40, [], .bool (decide (a < ((List.replicate u0.Size.toNat (0 : Int)).length : Int)))⟩, ⟨49, [], .slice (sm b) (d.set a.toNat (w64 ((w64 ((w64 ((w64 ((w64 ((w64 ((w64 ((w64 ((w64 ((w64 ((w64 (u0.Start.tdiv 8)) * 8)) + 7)) - (u0.Start.tmod 8))) + u0.Size)) - 1)) - a)).tdiv 8)) * 8)) + 7)) - ((w64 ((w64 ((w64 ((w64 ((w64 ((w64 ((w64 (u0.Start.tdiv 8)) * 8)) + 7)) - (u0.Start.tmod 8))) + u0.Size)) - 1)) - a)).tmod 8)))).length u0.Size.toNat⟩, ⟨50, [], i6 a⟩, ⟨57, [], i6 (w64 ((w64 ((w64 ((w64 ((w64 ((w64 ((w64 ((w64 ((w64 ((w64 ((w64 (u0.Start.tdiv 8)) * 8)) + 7)) - (u0.Start.tmod 8))) + u0.Size)) - 1)) - a)).tdiv 8)) * 8)) + 7)) - ((w64 ((w64 ((w64 ((w64 ((w64 ((w64 ((w64 (u0.Start.tdiv 8)) * 8)) + 7)) - (u0.Start.tmod 8))) + u0.Size)) - 1)) - a)).tmod 8)))⟩, ⟨58, [], .pointer (some ⟨b, a.toNat * 1, none⟩)⟩] a4 := by (try simp only [List.length_set] at v); (try simp only [List.length_set]); exact v.region (by kernel_rfl) (by kernel_rfl)
   clear v
   have au : Mem w.heap.size [] w Z [.own t6 3 (sm b) u0.Size.toNat (d.set a.toNat (w64 ((w64 ((w64 ((w64 ((w64 ((w64 ((w64 ((w64 ((w64 ((w64 ((w64 (u0.Start.tdiv 8)) * 8)) + 7)) - (u0.Start.tmod 8))) + u0.Size)) - 1)) - a)).tdiv 8)) * 8)) + 7)) - ((w64 ((w64 ((w64 ((w64 ((w64 ((w64 ((w64 (u0.Start.tdiv 8)) * 8)) + 7)) - (u0.Start.tmod 8))) + u0.Size)) - 1)) - a)).tmod 8)))), .row f (e23P u0) 23] Z a6 := aq; clear aq
   refine nlH (an _ _ ?_); clear an aZ
   refine ibn ?_
   refine thn ?_
   refine rgB ar au [] [] [(39, i6 (w64 (a + 1)))] ?_; intro bs a8; clear ar
   refine rd ?_
   exact ⟨⟨w64 (a + 1), d.set a.toNat (w64 ((w64 ((w64 ((w64 ((w64 ((w64 ((w64 ((w64 ((w64 ((w64 ((w64 (u0.Start.tdiv 8)) * 8)) + 7)) - (u0.Start.tmod 8))) + u0.Size)) - 1)) - a)).tdiv 8)) * 8)) + 7)) - ((w64 ((w64 ((w64 ((w64 ((w64 ((w64 ((w64 (u0.Start.tdiv 8)) * 8)) + 7)) - (u0.Start.tmod 8))) + u0.Size)) - 1)) - a)).tmod 8)))⟩, ap.1, ap.2, (a8.region (by kernel_rfl) (by kernel_rfl)).anyβ _ (by kernel_rfl), au.keep (List.Sublist.cons_cons _ (List.Sublist.cons_cons _ (List.Sublist.slnil)))⟩
  · -- no
   have a9 := q.2 B; clear q
   refine wp_exit ?_
   refine thx ?_
   refine thx ?_
   refine ibx ?_
   refine thn ?_
   refine sqB m g [] [] [(2, .slice (sm b) d.length u0.Size.toNat)] ?_; intro bu ba; clear m
   refine wp_ret ?_
   refine ra1 ba (.slice (sm b) d.length u0.Size.toNat) ?_
   exact ⟨d, (sm b), u0.Size.toNat, Z, rfl, a9, g.keep (List.Sublist.cons_cons _ (List.Sublist.cons _ (List.Sublist.slnil)))⟩

theorem rin_walk (u0 : Int) (u1 : Int) (u2 : Int)  (Z : Fz) (w : World)  (hZ : Z.on w) {K : Bool → Prop} (hp : rin_vc u0 u1 u2 K) : Calls Tryd.prog 37 #[i6 u0, i6 u1, i6 u2] w fun e w' => ∃ r : Bool, e = .returned (.bool r) ∧ K r ∧ Below w.heap.size w w' := by
 refine enter0 Tryd.func37 rfl rfl (by kernel_rfl) ?_; intro f b; have a := Mem.start w Z hZ; have g := Fz.le.refl Z
 refine sqB b a [] [] [] ?_; intro h c; clear b
 refine sqB c a [] [] [(6, .bool ((decide (u0 ≥ u1)) && (decide (u0 ≤ u2))))] ?_; intro i d; clear c
 refine wp_ret ?_
 refine ra1 d (.bool ((decide (u0 ≥ u1)) && (decide (u0 ≤ u2)))) ?_
 exact ⟨(decide (u0 ≥ u1)) && (decide (u0 ≤ u2)), rfl, hp, a.below⟩
theorem rin_fun (u0 : Int) (u1 : Int) (u2 : Int)  (Z : Fz) (w : World)  (hZ : Z.on w) : Calls Tryd.prog 37 #[i6 u0, i6 u1, i6 u2] w fun e w' => e = .returned (.bool (rin u0 u1 u2)) ∧ Below w.heap.size w w' :=
  (rin_walk u0 u1 u2  Z w  hZ (rin_ok u0 u1 u2)).mono fun _ _ ⟨r, he, hk, hb⟩ => ⟨by subst hk; exact he, hb⟩

theorem trim_fun (u0 : List UInt8) (u1 : List UInt8) (hpre : u0.length ≤ 9223372036854775807 ∧ u1.length < 4294967281 ∧ u1.all (fun b => decide (b.toNat < 128)) = true) (Z : Fz) (w : World) (hZ : Z.on w) : Calls Tryd.prog 60 #[str u0, str u1] w fun e w' => e = .returned (str (trimS u0 u1)) ∧ Below w.heap.size w w' := by
  have h := Any.strings_Trim_laid Tryd.lays160 (by kernel_rfl) ⟨⟨u0⟩⟩ ⟨⟨u1⟩⟩ w (by show u0.length ≤ _; exact hpre.1) (by show u1.length < _; exact hpre.2.1) (ascii_of_all hpre.2.2)
  exact h

end Go.Proofs.YtdndfbamhnchfaaDoor
set_option linter.unusedVariables false
set_option linter.unusedSimpArgs false
set_option maxRecDepth 100000
set_option maxHeartbeats 0
namespace Go.Proofs.YtdndfbamhnchfaaDoor
open Go.Sy Go.RowKit
abbrev e23Q (X : Signal) : List Value := [str X.Name, i6 X.Start, i6 X.Size, .bool X.Back, .bool X.Signed, i6 X.Mul, i6 X.Div, i6 X.Add, i6 X.Key]
theorem rplaces_fun (u0 : Signal) (hpre : (0 ≤ u0.Start ∧ u0.Start ≤ 512) ∧ 1 ≤ u0.Size ∧ u0.Size ≤ 40)  (Z : Fz) (w : World)  (hZ : Z.on w) : Calls Tryd.prog 25 #[.agg #[str u0.Name, i6 u0.Start, i6 u0.Size, .bool u0.Back, .bool u0.Signed, i6 u0.Mul, i6 u0.Div, i6 u0.Add, i6 u0.Key]] w fun e w' => ∃ (ao1001 : Option Addr) (cap1002 : Nat) (Z' : Fz), e = .returned (.slice ao1001 (placesS u0).length cap1002) ∧ Mem w.heap.size [] w Z [.own t6 3 ao1001 cap1002 (placesS u0)] Z' w' :=
  (rplaces_walk u0  Z w  hZ (rplaces_ok u0 hpre)).mono fun _ _ ⟨r, h0, h1, h2, he, hk, hm⟩ => by subst hk; exact ⟨h0, h1, h2, he, hm⟩

theorem scontains_fun (u0 : List Int) (u1 : Int) (ao1 : Option Addr) (cap2 : Nat) (Z : Fz) (w : World) (hs3 : SlR t6 Z ao1 cap2 u0) (hZ : Z.on w) : Calls Tryd.prog 65 #[.slice ao1 u0.length cap2, i6 u1] w fun e w' => e = .returned (.bool (scontainsS u0 u1)) ∧ Below w.heap.size w w' :=
  (scontains_walk u0 u1 ao1 cap2 Z w hs3 hZ (scontains_ok u0 u1)).mono fun _ _ ⟨r, he, hk, hb⟩ => ⟨by subst hk; exact he, hb⟩

theorem icontf_fun (u0 : List Int) (u1 : Int → Bool) (ao1 : Option Addr) (cap2 : Nat) (fid4 : Nat) (caps5 : Array Value) (Z : Fz) (w : World) (hs3 : SlR t6 Z ao1 cap2 u0) (hf6 : ∀ (Z1 : Fz) (w1 : World), Z.le Z1 → Z1.on w1 → ∀ (x0 : Int), Calls Tryd.prog fid4 (#[i6 x0] ++ caps5) w1 fun e w2 => e = .returned (.bool (u1 x0)) ∧ Below w1.heap.size w1 w2) (hg7 : ∀ x w, Sem.run Tryd.prog (callFunc fid4 x) w = .ok (.enter fid4 x) w) (hZ : Z.on w) : Calls Tryd.prog 63 #[.slice ao1 u0.length cap2, .func (.func fid4) #[] caps5] w fun e w' => e = .returned (.bool (icontfS u0 u1)) ∧ Below w.heap.size w w' :=
  (icontf_walk u0 u1 ao1 cap2 fid4 caps5 Z w hs3 hf6 hg7 hZ (icontf_ok u0 u1)).mono fun _ _ ⟨r, he, hk, hb⟩ => ⟨by subst hk; exact he, hb⟩

theorem risname_walk (u0 : List UInt8)  (Z : Fz) (w : World)  (hZ : Z.on w) {K : Bool → Prop} (hp : risname_vc u0 K) : Calls Tryd.prog 21 #[str u0] w fun e w' => ∃ r : Bool, e = .returned (.bool r) ∧ K r ∧ Below w.heap.size w w' := by
 refine enter0 Tryd.func21 rfl rfl (by kernel_rfl) ?_; intro a0 D; have a := Mem.start w Z hZ; have ap := Fz.le.refl Z
 refine sqB D a [] [] [] ?_; intro a2 E; clear D
 refine wp_seq ?_
 refine sqH ?_; intro z f
 refine bt E a 8 [] [27] [(10, .bool ((u0 == ([] : List UInt8)) || (decide ((u0.length : Int) > 16))))] ?_; intro aq l; clear E
 rcases Bool.eq_false_or_eq_true ((u0 == ([] : List UInt8)) || (decide ((u0.length : Int) > 16))) with h | h
 · -- true
  have U := hp.1 h; clear hp
  have F := l.reval (d := 10) (c := []) (v := .bool ((u0 == ([] : List UInt8)) || (decide ((u0.length : Int) > 16)))) (by kernel_rfl) (.bool true) (by rw [h]); clear l
  refine bt F a 9 [] [11, 12, 13, 14, 15, 16, 17, 18, 19] [(19, .bool true)] ?_; intro ar A; clear F
  refine nlH (f _ _ ?_); clear f z
  refine cdT A (by kernel_rfl) ?_
  refine sqB A a [] [] [(2, .bool false)] ?_; intro au V; clear A
  refine wp_ret ?_
  refine thr ?_
  refine ra1 V (.bool false) ?_
  exact ⟨false, rfl, U, a.below⟩
 · -- false
  have W := hp.2 h; clear hp
  have m := l.reval (d := 10) (c := []) (v := .bool ((u0 == ([] : List UInt8)) || (decide ((u0.length : Int) > 16)))) (by kernel_rfl) (.bool false) (by rw [h]); clear l
  refine st m (str u0) (by rw [wanted_of m (b := false) rfl rfl (by kernel_rfl) (by kernel_rfl)]; rfl) rfl (by kernel_rfl) (p0 m (by kernel_rfl)) ?_; intro av n; clear m
  obtain ⟨X, Y⟩ := W
  obtain ⟨g, G⟩ : ∃ q, u0[(0 : Int).toNat]? = some q := ⟨_, List.getElem?_eq_getElem (by omega)⟩; have o := Y g G
  refine st n (y8 (g.toNat : Int)) (by rw [wanted_of n (b := false) rfl rfl (by kernel_rfl) (by kernel_rfl)]; rfl) rfl (by kernel_rfl) (stridx_run n (k := .i64) rfl (by kernel_rfl) (by kernel_rfl) (by kernel_rfl) X.1 G) ?_; intro aw H; clear n
  refine bt H a 2 [] [13, 14] [(14, .bool (decide ((g.toNat : Int) ≥ 48)))] ?_; intro ax p; clear H
  rcases Bool.eq_false_or_eq_true (decide ((g.toNat : Int) ≥ 48)) with i | i
  · -- true
   have aa := o.1 i; clear o
   have s := p.reval (d := 14) (c := []) (v := .bool (decide ((g.toNat : Int) ≥ 48))) (by kernel_rfl) (.bool true) (by rw [i]); clear p
   refine st s (str u0) (by rw [wanted_of s (b := true) rfl rfl (by kernel_rfl) (by kernel_rfl)]; rfl) rfl (by kernel_rfl) (p0 s (by kernel_rfl)) ?_; intro ay u; clear s
   obtain ⟨ab, ac⟩ := aa
   obtain ⟨x, I⟩ : ∃ q, u0[(0 : Int).toNat]? = some q := ⟨_, List.getElem?_eq_getElem (by omega)⟩; have y := ac x I
   refine st u (y8 (x.toNat : Int)) (by rw [wanted_of u (b := true) rfl rfl (by kernel_rfl) (by kernel_rfl)]; rfl) rfl (by kernel_rfl) (stridx_run u (k := .i64) rfl (by kernel_rfl) (by kernel_rfl) (by kernel_rfl) ab.1 I) ?_; intro az J; clear u
   refine bt J a 3 [] [17, 18, 19] [(19, .bool (decide ((x.toNat : Int) ≤ 57)))] ?_; intro aA j; clear J
   refine nlH (f _ _ ?_); clear f z
   refine cd j (t := decide ((x.toNat : Int) ≤ 57)) (by kernel_rfl) (fun B => ?_) (fun B => ?_)
   · -- yes
    have ad := y.1 B; clear y
    refine sqB j a [] [] [(2, .bool false)] ?_; intro aB ae; clear j
    refine wp_ret ?_
    refine thr ?_
    refine ra1 ae (.bool false) ?_
    exact ⟨false, rfl, ad, a.below⟩
   · -- no
    have af := y.2 B; clear y
    refine wp_skip ?_
    refine thn ?_
    refine sqH ?_; intro ag L
    refine s1 j 20 (str u0) ?_; intro aC M; clear j
    obtain ⟨ah, ai⟩ := af
    refine fc M a (trim_fun u0 ([97, 98, 99, 100, 101, 102, 103, 104, 105, 106, 107, 108, 109, 110, 111, 112, 113, 114, 115, 116, 117, 118, 119, 120, 121, 122, 65, 66, 67, 68, 69, 70, 71, 72, 73, 74, 75, 76, 77, 78, 79, 80, 81, 82, 83, 84, 85, 86, 87, 88, 89, 90, 48, 49, 50, 51, 52, 53, 54, 55, 56, 57] : List UInt8) ah _ _ a.fz) ?_; intro aD aE N O; clear M a
    refine bt N O 2 [] [45] [(2, .bool ((trimS u0 ([97, 98, 99, 100, 101, 102, 103, 104, 105, 106, 107, 108, 109, 110, 111, 112, 113, 114, 115, 116, 117, 118, 119, 120, 121, 122, 65, 66, 67, 68, 69, 70, 71, 72, 73, 74, 75, 76, 77, 78, 79, 80, 81, 82, 83, 84, 85, 86, 87, 88, 89, 90, 48, 49, 50, 51, 52, 53, 54, 55, 56, 57] : List UInt8)) == ([] : List UInt8)))] ?_; intro aF aj; clear N
    refine nlH (L _ _ ?_); clear L ag
    refine wp_ret ?_
    refine ra1 aj (.bool ((trimS u0 ([97, 98, 99, 100, 101, 102, 103, 104, 105, 106, 107, 108, 109, 110, 111, 112, 113, 114, 115, 116, 117, 118, 119, 120, 121, 122, 65, 66, 67, 68, 69, 70, 71, 72, 73, 74, 75, 76, 77, 78, 79, 80, 81, 82, 83, 84, 85, 86, 87, 88, 89, 90, 48, 49, 50, 51, 52, 53, 54, 55, 56, 57] : List UInt8)) == ([] : List UInt8))) ?_
    exact ⟨(trimS u0 ([97, 98, 99, 100, 101, 102, 103, 104, 105, 106, 107, 108, 109, 110, 111, 112, 113, 114, 115, 116, 117, 118, 119, 120, 121, 122, 65, 66, 67, 68, 69, 70, 71, 72, 73, 74, 75, 76, 77, 78, 79, 80, 81, 82, 83, 84, 85, 86, 87, 88, 89, 90, 48, 49, 50, 51, 52, 53, 54, 55, 56, 57] : List UInt8)) == ([] : List UInt8), rfl, ai, O.below⟩
  · -- false
   have ak := o.2 i; clear o
   have P := p.reval (d := 14) (c := []) (v := .bool (decide ((g.toNat : Int) ≥ 48))) (by kernel_rfl) (.bool false) (by rw [i]); clear p
   refine bt P a 5 [] [15, 16, 17, 18, 19] [(19, .bool false)] ?_; intro aG C; clear P
   refine nlH (f _ _ ?_); clear f z
   refine cdF C (by kernel_rfl) ?_
   refine wp_skip ?_
   refine thn ?_
   refine sqH ?_; intro al Q
   refine s1 C 20 (str u0) ?_; intro aH R; clear C
   obtain ⟨am, an⟩ := ak
   refine fc R a (trim_fun u0 ([97, 98, 99, 100, 101, 102, 103, 104, 105, 106, 107, 108, 109, 110, 111, 112, 113, 114, 115, 116, 117, 118, 119, 120, 121, 122, 65, 66, 67, 68, 69, 70, 71, 72, 73, 74, 75, 76, 77, 78, 79, 80, 81, 82, 83, 84, 85, 86, 87, 88, 89, 90, 48, 49, 50, 51, 52, 53, 54, 55, 56, 57] : List UInt8) am _ _ a.fz) ?_; intro aI aJ S T; clear R a
   refine bt S T 2 [] [45] [(2, .bool ((trimS u0 ([97, 98, 99, 100, 101, 102, 103, 104, 105, 106, 107, 108, 109, 110, 111, 112, 113, 114, 115, 116, 117, 118, 119, 120, 121, 122, 65, 66, 67, 68, 69, 70, 71, 72, 73, 74, 75, 76, 77, 78, 79, 80, 81, 82, 83, 84, 85, 86, 87, 88, 89, 90, 48, 49, 50, 51, 52, 53, 54, 55, 56, 57] : List UInt8)) == ([] : List UInt8)))] ?_; intro aK ao; clear S
   refine nlH (Q _ _ ?_); clear Q al
   refine wp_ret ?_
   refine ra1 ao (.bool ((trimS u0 ([97, 98, 99, 100, 101, 102, 103, 104, 105, 106, 107, 108, 109, 110, 111, 112, 113, 114, 115, 116, 117, 118, 119, 120, 121, 122, 65, 66, 67, 68, 69, 70, 71, 72, 73, 74, 75, 76, 77, 78, 79, 80, 81, 82, 83, 84, 85, 86, 87, 88, 89, 90, 48, 49, 50, 51, 52, 53, 54, 55, 56, 57] : List UInt8)) == ([] : List UInt8))) ?_
   exact ⟨(trimS u0 ([97, 98, 99, 100, 101, 102, 103, 104, 105, 106, 107, 108, 109, 110, 111, 112, 113, 114, 115, 116, 117, 118, 119, 120, 121, 122, 65, 66, 67, 68, 69, 70, 71, 72, 73, 74, 75, 76, 77, 78, 79, 80, 81, 82, 83, 84, 85, 86, 87, 88, 89, 90, 48, 49, 50, 51, 52, 53, 54, 55, 56, 57] : List UInt8)) == ([] : List UInt8), rfl, an, T.below⟩

theorem rrawof_walk (u0 : Signal) (u1 : List Int) (ao1 : Option Addr) (cap2 : Nat) (Z : Fz) (w : World) (hs3 : SlR t8 Z ao1 cap2 u1) (hZ : Z.on w) {K : Int → Prop} (hp : rrawof_vc u0 u1 K) : Calls Tryd.prog 10 #[.agg #[str u0.Name, i6 u0.Start, i6 u0.Size, .bool u0.Back, .bool u0.Signed, i6 u0.Mul, i6 u0.Div, i6 u0.Add, i6 u0.Key], .slice ao1 u1.length cap2] w fun e w' => ∃ r : Int, e = .returned (i6 r) ∧ K r ∧ Below w.heap.size w w' := by
 refine enter0 Tryd.func10 rfl rfl (by kernel_rfl) ?_; intro a0 V; have W := Mem.start w Z hZ; have y := Fz.le.refl Z
 have a2 := hp (hs3.small); clear hp
 refine sqH ?_; intro a3 X
 refine nw V W pb (e23Q u0) 23 ?_; intro j a7 bW Y o; clear V W
 refine s1 Y 4 (i6 0) ?_; intro bX aa; clear Y
 refine nlH (X _ _ ?_); clear X a3
 refine sqB aa o [] [] [(5, i6 0)] ?_; intro bY ab; clear aa
 refine wp_seq ?_
 refine sqH ?_; intro a4 ac
 refine l2 ab o 8 0 0 9 (e23Q u0) rfl rfl ?_; intro bZ ad; clear ab
 obtain ⟨a5, ae⟩ := a2
 refine ck ad 25 #[.agg (e23Q u0).toArray] ?_
 refine (rplaces_fun u0 a5 _ _ o.fz).mono ?_; rintro _ af ⟨l, m, a6, rfl, hm⟩; refine ⟨_, rfl, ?_⟩; intro b0 ag; have ah := o.callZ hm; have ai := hm.ext.le; clear hm o ad
 replace hs3 := hs3.mono ai
 replace y := Fz.le.trans y ai
 have J : Mem w.heap.size [] w Z [.own t6 3 l m (placesS u0), .row j (e23Q u0) 23] a6 af := ah; clear ah
 have a8 := ae (J.ownSmall 0 rfl); clear ae
 refine bt ag J 2 [] [] [(10, i6 ((placesS u0).length : Int)), (11, i6 0)] ?_; intro aj ak; clear ag
 refine nlH (ac _ _ ?_); clear ac a4
 refine wp_block ?_
 have al : Fr 47 [] [⟨1, [], .slice ao1 u1.length cap2⟩, ⟨2, [], pt j 0⟩, ⟨5, [], i6 0⟩, ⟨9, [], .slice l (placesS u0).length m⟩, ⟨10, [], i6 ((placesS u0).length : Int)⟩, ⟨11, [], i6 0⟩] aj := ak.region (by kernel_rfl) (by kernel_rfl); clear ak
 obtain ⟨z, am, an, a9⟩ := J.freeze 0 rfl
 replace hs3 := hs3.mono am
 replace y := Fz.le.trans y am
 have ao : Mem w.heap.size [] w Z [.row j (e23Q u0) 23] z af := an; clear an
 have ap : Fr 47 [] [⟨1, [], .slice ao1 u1.length cap2⟩, ⟨2, [], pt j 0⟩, ⟨5, [], i6 0⟩, ⟨9, [], .slice l (placesS u0).length m⟩, ⟨10, [], i6 ((placesS u0).length : Int)⟩, ⟨11, [], i6 0⟩] aj := al.region (by kernel_rfl) (by kernel_rfl); clear al
 obtain ⟨ba, bb, bc, bd⟩ := a8
 refine lp (ι := Int × Int) (fun s => [⟨1, [], .slice ao1 u1.length cap2⟩, ⟨2, [], pt j 0⟩, ⟨5, [], i6 s.1⟩, ⟨9, [], .slice l (placesS u0).length m⟩, ⟨10, [], i6 ((placesS u0).length : Int)⟩, ⟨11, [], i6 s.2⟩]) (fun s => [.row j (e23Q u0) 23]) (fun s => z) (fun s => ba s.1 s.2) (fun s => bb s.1 s.2) ⟨0, 0⟩ bc (by exact ap.region (by kernel_rfl) (by kernel_rfl)) (by exact ao) ?_
 rintro ⟨a, f⟩ be bf bg aq ar
 have au : Fr 47 [] [⟨1, [], .slice ao1 u1.length cap2⟩, ⟨2, [], pt j 0⟩, ⟨5, [], i6 a⟩, ⟨9, [], .slice l (placesS u0).length m⟩, ⟨10, [], i6 ((placesS u0).length : Int)⟩, ⟨11, [], i6 f⟩] bf := aq; clear aq ap
 have h : Mem w.heap.size [] w Z [.row j (e23Q u0) 23] z bg := ar; clear ar ao
 have A := bd a f be
 refine sqB au h [] [] [(12, .bool (decide (f < ((placesS u0).length : Int))))] ?_; intro av p; clear au
 refine wp_seq ?_
 refine cd p (t := decide (f < ((placesS u0).length : Int))) (by kernel_rfl) (fun L => ?_) (fun L => ?_)
 · -- yes
  have bh := A.1 L; clear A
  refine wp_skip ?_
  refine thn ?_
  have aw : Fr 47 [] [⟨1, [], .slice ao1 u1.length cap2⟩, ⟨2, [], pt j 0⟩, ⟨5, [], i6 a⟩, ⟨9, [], .slice l (placesS u0).length m⟩, ⟨10, [], i6 ((placesS u0).length : Int)⟩, ⟨11, [], i6 f⟩] av := p.region (by kernel_rfl) (by kernel_rfl); clear p
  have M : Fr 47 [] [⟨1, [], .slice ao1 u1.length cap2⟩, ⟨2, [], pt j 0⟩, ⟨5, [], i6 a⟩, ⟨9, [], .slice l (placesS u0).length m⟩, ⟨10, [], i6 ((placesS u0).length : Int)⟩, ⟨11, [], i6 f⟩] av := aw.region (by kernel_rfl) (by kernel_rfl); clear aw
  obtain ⟨bi, bj, bk⟩ := bh
  refine wp_seq_k fun KJ64 hKJ65 => ?_
  have ax : ∀ (q : Int), bi q → ∀ a1 w1, Fr 47 [] [⟨1, [], .slice ao1 u1.length cap2⟩, ⟨2, [], pt j 0⟩, ⟨5, [], i6 q⟩, ⟨9, [], .slice l (placesS u0).length m⟩, ⟨10, [], i6 ((placesS u0).length : Int)⟩, ⟨11, [], i6 f⟩] a1 → Mem w.heap.size [] w Z [.row j (e23Q u0) 23] z w1 → KJ64 a1 w1 := by
   rintro q bl b1 b2 ay az; clear M h
   refine hKJ65 _ _ ?_; clear hKJ65
   have aA := bk q bl
   refine rgB ay az [] [] [(11, i6 (w64 (f + 1)))] ?_; intro b3 bm; clear ay
   refine rd ?_
   exact ⟨⟨q, w64 (f + 1)⟩, aA.1, aA.2, (bm.region (by kernel_rfl) (by kernel_rfl)).anyβ _ (by kernel_rfl), az.keep (List.Sublist.cons_cons _ (List.Sublist.slnil))⟩
  refine wp_block ?_
  refine sqH ?_; intro bn aB
  refine s1 M 13 (i6 f) ?_; intro b4 aC; clear M
  obtain ⟨bo, aD⟩ := bj
  refine ix aC (T := t6) (xs := (placesS u0)) a9 f bo (k := .i64) (e := 3) (bytes := 8) (nog rfl _) rfl (by kernel_rfl) rfl (by kernel_rfl) (by kernel_rfl) (by kernel_rfl) ?_; intro b5 b7 bp i b8 bq br bs aE; clear aC
  have bu := aD i bq; clear aD
  obtain rfl : bp = ([i6 i] : List Value) := bs
  refine z1 aE h 15 br 0 (i6 i) rfl ?_; intro b9 aF; clear aE
  refine bt aF h 2 [] [] [(6, i6 f), (7, i6 i)] ?_; intro bv aG; clear aF
  refine nlH (aB _ _ ?_); clear aB bn
  have aH : Fr 47 [] [⟨1, [], .slice ao1 u1.length cap2⟩, ⟨2, [], pt j 0⟩, ⟨5, [], i6 a⟩, ⟨6, [], i6 f⟩, ⟨7, [], i6 i⟩, ⟨9, [], .slice l (placesS u0).length m⟩, ⟨10, [], i6 ((placesS u0).length : Int)⟩, ⟨11, [], i6 f⟩] bv := aG.region (by kernel_rfl) (by kernel_rfl); clear aG
  refine sqQH mixed (by kernel_rfl) h ?_; intro bw aI
  refine q1 aH 16 (.slice ao1 u1.length cap2) ?_; intro ca aJ; clear aH
  refine q1 aJ 17 (i6 i) ?_; intro cb aK; clear aJ
  refine q1 aK 18 (i6 (w64 (i.tdiv 8))) ?_; intro cc aL; clear aK
  obtain ⟨bx, aM⟩ := bu
  refine qix aL (T := t8) (xs := u1) hs3 (w64 (i.tdiv 8)) bx (k := .i64) (e := 5) (bytes := 1) (nog rfl _) rfl (by kernel_rfl) rfl (by kernel_rfl) (by kernel_rfl) (by kernel_rfl) ?_; intro ce cf bz n cg bA bB bC N; clear aL
  have bD := aM n bA; clear aM
  obtain rfl : bz = ([y8 n] : List Value) := bC
  refine qst N (y8 n) (nog rfl _) rfl (by kernel_rfl) (fun v123 hC => lz N hC.fz bB 0 (g := []) rfl (by kernel_rfl) (by kernel_rfl) (by kernel_rfl) rfl) ?_; intro ch aN; clear N
  refine q1 aN 21 (i6 i) ?_; intro ci aO; clear aN
  refine q1 aO 22 (i6 (i.tmod 8)) ?_; intro cj O; clear aO
  obtain ⟨bE, B⟩ := bD
  refine qst O (y8 (bShl .u8 1 (i.tmod 8))) (nog rfl _) rfl (by kernel_rfl) (fun v132 hC => shl_run O (g := []) (k' := .i64) rfl (by kernel_rfl) (by kernel_rfl) bE rfl) ?_; intro cl aP; clear O
  refine q1 aP 24 (y8 (bAnd .u8 n (bShl .u8 1 (i.tmod 8)))) ?_; intro cm aQ; clear aP
  refine q1 aQ 25 (.bool ((bAnd .u8 n (bShl .u8 1 (i.tmod 8))) != 0)) ?_; intro cn C; clear aQ
  refine qnl (aI _ ?_); clear aI bw; intro co D; clear h
  refine cd C (t := (bAnd .u8 n (bShl .u8 1 (i.tmod 8))) != 0) (by kernel_rfl) (fun P => ?_) (fun P => ?_)
  · -- yes
   have bF := B.1 P; clear B
   refine rgH ?_; intro bG aR
   refine bt C D 2 [] [] [(26, i6 a), (27, i6 f)] ?_; intro cp Q; clear C
   obtain ⟨bH, bI⟩ := bF
   refine st Q (i6 (bShl .i64 1 f)) (nog rfl _) rfl (by kernel_rfl) (shl_run Q (g := []) (k' := .i64) rfl (by kernel_rfl) (by kernel_rfl) bH rfl) ?_; intro cq aS; clear Q
   refine bt aS D 2 [] [] [(5, i6 (w64 (a + (bShl .i64 1 f))))] ?_; intro cr bJ; clear aS
   refine nlH (aR _ _ ?_); clear aR bG
   refine ibn ?_
   refine rd ?_
   exact ax (w64 (a + (bShl .i64 1 f))) bI _ _ ((bJ.region (by kernel_rfl) (by kernel_rfl)).anyβ _ (by kernel_rfl)) (D.keep (List.Sublist.cons_cons _ (List.Sublist.slnil)))
  · -- no
   have bK := B.2 P; clear B
   refine wp_skip ?_
   refine ibn ?_
   refine rd ?_
   exact ax a bK _ _ ((C.region (by kernel_rfl) (by kernel_rfl)).anyβ _ (by kernel_rfl)) (D.keep (List.Sublist.cons_cons _ (List.Sublist.slnil)))
 · -- no
  have E := A.2 L; clear A
  refine wp_exit ?_
  refine thx ?_
  refine thx ?_
  refine ibx ?_
  refine thn ?_
  refine wp_seq ?_
  refine sqH ?_; intro aT F
  refine bt p h 3 [0] [] [(33, .bool u0.Signed)] ?_; intro cs G; clear p
  rcases Bool.eq_false_or_eq_true (u0.Signed) with u | u
  · -- true
   have bL := E.1 u; clear E
   have aU := G.reval (d := 33) (c := []) (v := .bool u0.Signed) (by kernel_rfl) (.bool true) (by rw [u]); clear G
   refine bt aU h 4 [0] [34, 35, 36, 37] [(34, i6 a), (37, i6 (w64 (u0.Size - 1)))] ?_; intro ct H; clear aU
   obtain ⟨bM, I⟩ := bL
   refine st H (i6 (bShl .i64 1 (w64 (u0.Size - 1)))) (by rw [wanted_of H (b := true) rfl rfl (by kernel_rfl) (by kernel_rfl)]; rfl) rfl (by kernel_rfl) (shl_run H (g := []) (k' := .i64) rfl (by kernel_rfl) (by kernel_rfl) bM rfl) ?_; intro cu aV; clear H
   refine bt aV h 2 [] [39, 40] [(40, .bool (decide (a ≥ (bShl .i64 1 (w64 (u0.Size - 1))))))] ?_; intro cv x; clear aV
   refine nlH (F _ _ ?_); clear F aT
   refine cd x (t := decide (a ≥ (bShl .i64 1 (w64 (u0.Size - 1))))) (by kernel_rfl) (fun R => ?_) (fun R => ?_)
   · -- yes
    have bN := I.1 R; clear I
    refine rgH ?_; intro bO aW
    refine bt x h 3 [0] [] [(41, i6 a), (43, i6 u0.Size)] ?_; intro cw S; clear x
    obtain ⟨bP, bQ⟩ := bN
    refine st S (i6 (bShl .i64 1 u0.Size)) (nog rfl _) rfl (by kernel_rfl) (shl_run S (g := []) (k' := .i64) rfl (by kernel_rfl) (by kernel_rfl) bP rfl) ?_; intro cx aX; clear S
    refine bt aX h 2 [] [] [(5, i6 (w64 (a - (bShl .i64 1 u0.Size))))] ?_; intro cy aY; clear aX
    refine nlH (aW _ _ ?_); clear aW bO
    refine thn ?_
    refine sqB aY h [] [] [(4, i6 (w64 (a - (bShl .i64 1 u0.Size))))] ?_; intro cz bR; clear aY
    refine wp_ret ?_
    refine ra1 bR (i6 (w64 (a - (bShl .i64 1 u0.Size)))) ?_
    exact ⟨w64 (a - (bShl .i64 1 u0.Size)), rfl, bQ, h.below⟩
   · -- no
    have bS := I.2 R; clear I
    refine wp_skip ?_
    refine thn ?_
    refine sqB x h [] [] [(4, i6 a)] ?_; intro cA bT; clear x
    refine wp_ret ?_
    refine ra1 bT (i6 a) ?_
    exact ⟨a, rfl, bS, h.below⟩
  · -- false
   have bU := E.2 u; clear E
   have aZ := G.reval (d := 33) (c := []) (v := .bool u0.Signed) (by kernel_rfl) (.bool false) (by rw [u]); clear G
   refine bt aZ h 7 [] [34, 35, 36, 37, 38, 39, 40] [(40, .bool false)] ?_; intro cB U; clear aZ
   refine nlH (F _ _ ?_); clear F aT
   refine cdF U (by kernel_rfl) ?_
   refine wp_skip ?_
   refine thn ?_
   refine sqB U h [] [] [(4, i6 a)] ?_; intro cC bV; clear U
   refine wp_ret ?_
   refine ra1 bV (i6 a) ?_
   exact ⟨a, rfl, bU, h.below⟩

end Go.Proofs.YtdndfbamhnchfaaDoor
set_option linter.unusedVariables false
set_option linter.unusedSimpArgs false
set_option maxRecDepth 100000
set_option maxHeartbeats 0
namespace Go.Proofs.YtdndfbamhnchfaaDoor
open Go.Sy Go.RowKit
abbrev e23Rr (X : Signal) : List Value := [str X.Name, i6 X.Start, i6 X.Size, .bool X.Back, .bool X.Signed, i6 X.Mul, i6 X.Div, i6 X.Add, i6 X.Key]
theorem risname_fun (u0 : List UInt8)  (Z : Fz) (w : World)  (hZ : Z.on w) : Calls Tryd.prog 21 #[str u0] w fun e w' => e = .returned (.bool (nameS u0)) ∧ Below w.heap.size w w' :=
  (risname_walk u0  Z w  hZ (risname_ok u0)).mono fun _ _ ⟨r, he, hk, hb⟩ => ⟨by subst hk; exact he, hb⟩

theorem rrawof_fun (u0 : Signal) (u1 : List Int) (hpre : inD u0 u1) (ao1 : Option Addr) (cap2 : Nat) (Z : Fz) (w : World) (hs3 : SlR t8 Z ao1 cap2 u1) (hZ : Z.on w) : Calls Tryd.prog 10 #[.agg #[str u0.Name, i6 u0.Start, i6 u0.Size, .bool u0.Back, .bool u0.Signed, i6 u0.Mul, i6 u0.Div, i6 u0.Add, i6 u0.Key], .slice ao1 u1.length cap2] w fun e w' => e = .returned (i6 (getS u0 u1)) ∧ Below w.heap.size w w' :=
  (rrawof_walk u0 u1 ao1 cap2 Z w hs3 hZ (rrawof_ok u0 u1 hpre)).mono fun _ _ ⟨r, he, hk, hb⟩ => ⟨by subst hk; exact he, hb⟩

theorem rcheck_walk (u0 : Signal) (u1 : Int)  (Z : Fz) (w : World)  (hZ : Z.on w) {K : Int → Prop} (hp : rcheck_vc u0 u1 K) : Calls Tryd.prog 8 #[.agg #[str u0.Name, i6 u0.Start, i6 u0.Size, .bool u0.Back, .bool u0.Signed, i6 u0.Mul, i6 u0.Div, i6 u0.Add, i6 u0.Key], i6 u1] w fun e w' => ∃ r : Int, e = .returned (i6 r) ∧ K r ∧ Below w.heap.size w w' := by
 refine enter0 Tryd.func8 rfl rfl (by kernel_rfl) ?_; intro a0 af; have ag := Mem.start w Z hZ; have z := Fz.le.refl Z
 refine sqH ?_; intro bx ah
 refine nw af ag pb (e23Rr u0) 23 ?_; intro a a3 ca ai A; clear af ag
 refine s1 ai 4 (i6 0) ?_; intro a7 aj; clear ai
 refine nlH (ah _ _ ?_); clear ah bx
 refine wp_seq ?_
 refine sqH ?_; intro bz ak
 refine bt aj A 2 [0] [] [(9, str u0.Name)] ?_; intro cb al; clear aj
 refine fc al A (risname_fun u0.Name _ _ A.fz) ?_; intro cc ce am d; clear al A
 refine s1 am 11 (.bool (!(nameS u0.Name))) ?_; intro cf l; clear am
 refine nlH (ak _ _ ?_); clear ak bz
 refine cd l (t := !(nameS u0.Name)) (by kernel_rfl) (fun J => ?_) (fun J => ?_)
 · -- yes
  have bA := hp.1 J; clear hp
  refine sqB l d [] [] [(4, i6 1)] ?_; intro cg bB; clear l
  refine wp_ret ?_
  refine thr ?_
  refine ra1 bB (i6 1) ?_
  exact ⟨1, rfl, bA, d.below⟩
 · -- no
  have B := hp.2 J; clear hp
  refine wp_skip ?_
  refine thn ?_
  refine sqB l d [] [] [(5, .func (.func 37) #[] #[])] ?_; intro ch an; clear l
  refine wp_seq ?_
  refine sqH ?_; intro bC ao
  refine bt an d 2 [] [] [(12, .func (.func 37) #[] #[]), (13, i6 u1)] ?_; intro ci ap; clear an
  refine fc ap d (rin_fun u1 0 64 _ _ d.fz) ?_; intro cl cm aq C; clear ap d
  refine s1 aq 15 (.bool (!(rin u1 0 64))) ?_; intro cn ar; clear aq
  refine s1 ar 16 (.bool (!(rin u1 0 64))) ?_; intro co au; clear ar
  have av := au.atom ((!(rin u1 0 64)) == false) (by kernel_rfl); clear au
  refine gp av 17 0 [] (!(rin u1 0 64)) (.func (.func 37) #[] #[]) rfl rfl ?_; intro cp aw; clear av
  refine gp aw 18 0 [] (!(rin u1 0 64)) (pt a 2) rfl rfl ?_; intro cq L; clear aw
  refine gd L (i6 u0.Size) (m := 0) (cj := []) (bj := !(rin u1 0 64)) rfl rfl (by kernel_rfl) rfl (by kernel_rfl) (by kernel_rfl) (by kernel_rfl) (fun hg => ld L C 0 (g := [0]) (b := a) (off := 2) (cs := (e23Rr u0)) (ty := 23) rfl (by kernel_rfl) (by kernel_rfl) (by kernel_rfl) (by kernel_rfl) hg) ?_; intro cr ax; clear L
  refine gcl ax C (.bool (rin u0.Size 1 40)) 37 #[i6 u0.Size, i6 1, i6 40] (m := 0) (cj := []) (bj := !(rin u1 0 64)) rfl rfl (by kernel_rfl) rfl (by kernel_rfl) (by kernel_rfl) (by kernel_rfl) (fun _ => by kernel_rfl) (fun hg => rin_fun u0.Size 1 40 _ _ C.fz) ?_; intro ct cu ay n; clear ax C
  refine gp ay 21 0 [] (!(rin u1 0 64)) (.bool (!(rin u0.Size 1 40))) rfl rfl ?_; intro cv M; clear ay
  refine st M (.bool ((!(rin u1 0 64)) || (!(rin u0.Size 1 40)))) (nog rfl _) rfl (by kernel_rfl) (pk_or M (g := []) (m := 0) (b := !(rin u1 0 64)) (v := !(rin u0.Size 1 40)) rfl (by kernel_rfl) (by kernel_rfl) (by kernel_rfl) rfl) ?_; intro cw az; clear M
  refine s1 az 23 (.bool ((!(rin u1 0 64)) || (!(rin u0.Size 1 40)))) ?_; intro cx aA; clear az
  have aB := aA.atom (((!(rin u1 0 64)) || (!(rin u0.Size 1 40))) == false) (by kernel_rfl); clear aA
  refine gp aB 24 1 [] ((!(rin u1 0 64)) || (!(rin u0.Size 1 40))) (pt a 5) rfl rfl ?_; intro cy N; clear aB
  refine gd N (i6 u0.Mul) (m := 1) (cj := []) (bj := (!(rin u1 0 64)) || (!(rin u0.Size 1 40))) rfl rfl (by kernel_rfl) rfl (by kernel_rfl) (by kernel_rfl) (by kernel_rfl) (fun hg => ld N n 0 (g := [1]) (b := a) (off := 5) (cs := (e23Rr u0)) (ty := 23) rfl (by kernel_rfl) (by kernel_rfl) (by kernel_rfl) (by kernel_rfl) hg) ?_; intro cz aC; clear N
  refine gp aC 26 1 [] ((!(rin u1 0 64)) || (!(rin u0.Size 1 40))) (.bool (u0.Mul == 0)) rfl rfl ?_; intro cA O; clear aC
  refine st O (.bool (((!(rin u1 0 64)) || (!(rin u0.Size 1 40))) || (u0.Mul == 0))) (nog rfl _) rfl (by kernel_rfl) (pk_or O (g := []) (m := 1) (b := (!(rin u1 0 64)) || (!(rin u0.Size 1 40))) (v := u0.Mul == 0) rfl (by kernel_rfl) (by kernel_rfl) (by kernel_rfl) rfl) ?_; intro cB aD; clear O
  refine s1 aD 28 (.bool (((!(rin u1 0 64)) || (!(rin u0.Size 1 40))) || (u0.Mul == 0))) ?_; intro cC aE; clear aD
  have aF := aE.atom ((((!(rin u1 0 64)) || (!(rin u0.Size 1 40))) || (u0.Mul == 0)) == false) (by kernel_rfl); clear aE
  refine gp aF 29 2 [] (((!(rin u1 0 64)) || (!(rin u0.Size 1 40))) || (u0.Mul == 0)) (.func (.func 37) #[] #[]) rfl rfl ?_; intro cD aG; clear aF
  refine gp aG 30 2 [] (((!(rin u1 0 64)) || (!(rin u0.Size 1 40))) || (u0.Mul == 0)) (pt a 5) rfl rfl ?_; intro cE P; clear aG
  refine gd P (i6 u0.Mul) (m := 2) (cj := []) (bj := ((!(rin u1 0 64)) || (!(rin u0.Size 1 40))) || (u0.Mul == 0)) rfl rfl (by kernel_rfl) rfl (by kernel_rfl) (by kernel_rfl) (by kernel_rfl) (fun hg => ld P n 0 (g := [2]) (b := a) (off := 5) (cs := (e23Rr u0)) (ty := 23) rfl (by kernel_rfl) (by kernel_rfl) (by kernel_rfl) (by kernel_rfl) hg) ?_; intro cF aH; clear P
  refine gcl aH n (.bool (rin u0.Mul (-1000000) 1000000)) 37 #[i6 u0.Mul, i6 (-1000000), i6 1000000] (m := 2) (cj := []) (bj := ((!(rin u1 0 64)) || (!(rin u0.Size 1 40))) || (u0.Mul == 0)) rfl rfl (by kernel_rfl) rfl (by kernel_rfl) (by kernel_rfl) (by kernel_rfl) (fun _ => by kernel_rfl) (fun hg => rin_fun u0.Mul (-1000000) 1000000 _ _ n.fz) ?_; intro cG cH aI D; clear aH n
  refine gp aI 33 2 [] (((!(rin u1 0 64)) || (!(rin u0.Size 1 40))) || (u0.Mul == 0)) (.bool (!(rin u0.Mul (-1000000) 1000000))) rfl rfl ?_; intro cI Q; clear aI
  refine st Q (.bool ((((!(rin u1 0 64)) || (!(rin u0.Size 1 40))) || (u0.Mul == 0)) || (!(rin u0.Mul (-1000000) 1000000)))) (nog rfl _) rfl (by kernel_rfl) (pk_or Q (g := []) (m := 2) (b := ((!(rin u1 0 64)) || (!(rin u0.Size 1 40))) || (u0.Mul == 0)) (v := !(rin u0.Mul (-1000000) 1000000)) rfl (by kernel_rfl) (by kernel_rfl) (by kernel_rfl) rfl) ?_; intro cJ aJ; clear Q
  refine s1 aJ 35 (.bool ((((!(rin u1 0 64)) || (!(rin u0.Size 1 40))) || (u0.Mul == 0)) || (!(rin u0.Mul (-1000000) 1000000)))) ?_; intro cK aK; clear aJ
  have aL := aK.atom (((((!(rin u1 0 64)) || (!(rin u0.Size 1 40))) || (u0.Mul == 0)) || (!(rin u0.Mul (-1000000) 1000000))) == false) (by kernel_rfl); clear aK
  refine gp aL 36 3 [] ((((!(rin u1 0 64)) || (!(rin u0.Size 1 40))) || (u0.Mul == 0)) || (!(rin u0.Mul (-1000000) 1000000))) (.func (.func 37) #[] #[]) rfl rfl ?_; intro cL aM; clear aL
  refine gp aM 37 3 [] ((((!(rin u1 0 64)) || (!(rin u0.Size 1 40))) || (u0.Mul == 0)) || (!(rin u0.Mul (-1000000) 1000000))) (pt a 6) rfl rfl ?_; intro cM R; clear aM
  refine gd R (i6 u0.Div) (m := 3) (cj := []) (bj := (((!(rin u1 0 64)) || (!(rin u0.Size 1 40))) || (u0.Mul == 0)) || (!(rin u0.Mul (-1000000) 1000000))) rfl rfl (by kernel_rfl) rfl (by kernel_rfl) (by kernel_rfl) (by kernel_rfl) (fun hg => ld R D 0 (g := [3]) (b := a) (off := 6) (cs := (e23Rr u0)) (ty := 23) rfl (by kernel_rfl) (by kernel_rfl) (by kernel_rfl) (by kernel_rfl) hg) ?_; intro cN aN; clear R
  refine gcl aN D (.bool (rin u0.Div 1 1000000)) 37 #[i6 u0.Div, i6 1, i6 1000000] (m := 3) (cj := []) (bj := (((!(rin u1 0 64)) || (!(rin u0.Size 1 40))) || (u0.Mul == 0)) || (!(rin u0.Mul (-1000000) 1000000))) rfl rfl (by kernel_rfl) rfl (by kernel_rfl) (by kernel_rfl) (by kernel_rfl) (fun _ => by kernel_rfl) (fun hg => rin_fun u0.Div 1 1000000 _ _ D.fz) ?_; intro cO cP aO E; clear aN D
  refine gp aO 40 3 [] ((((!(rin u1 0 64)) || (!(rin u0.Size 1 40))) || (u0.Mul == 0)) || (!(rin u0.Mul (-1000000) 1000000))) (.bool (!(rin u0.Div 1 1000000))) rfl rfl ?_; intro cQ S; clear aO
  refine st S (.bool (((((!(rin u1 0 64)) || (!(rin u0.Size 1 40))) || (u0.Mul == 0)) || (!(rin u0.Mul (-1000000) 1000000))) || (!(rin u0.Div 1 1000000)))) (nog rfl _) rfl (by kernel_rfl) (pk_or S (g := []) (m := 3) (b := (((!(rin u1 0 64)) || (!(rin u0.Size 1 40))) || (u0.Mul == 0)) || (!(rin u0.Mul (-1000000) 1000000))) (v := !(rin u0.Div 1 1000000)) rfl (by kernel_rfl) (by kernel_rfl) (by kernel_rfl) rfl) ?_; intro cR aP; clear S
  refine s1 aP 42 (.bool (((((!(rin u1 0 64)) || (!(rin u0.Size 1 40))) || (u0.Mul == 0)) || (!(rin u0.Mul (-1000000) 1000000))) || (!(rin u0.Div 1 1000000)))) ?_; intro cS aQ; clear aP
  have aR := aQ.atom ((((((!(rin u1 0 64)) || (!(rin u0.Size 1 40))) || (u0.Mul == 0)) || (!(rin u0.Mul (-1000000) 1000000))) || (!(rin u0.Div 1 1000000))) == false) (by kernel_rfl); clear aQ
  refine gp aR 43 4 [] (((((!(rin u1 0 64)) || (!(rin u0.Size 1 40))) || (u0.Mul == 0)) || (!(rin u0.Mul (-1000000) 1000000))) || (!(rin u0.Div 1 1000000))) (.func (.func 37) #[] #[]) rfl rfl ?_; intro cT aS; clear aR
  refine gp aS 44 4 [] (((((!(rin u1 0 64)) || (!(rin u0.Size 1 40))) || (u0.Mul == 0)) || (!(rin u0.Mul (-1000000) 1000000))) || (!(rin u0.Div 1 1000000))) (pt a 7) rfl rfl ?_; intro cU U; clear aS
  refine gd U (i6 u0.Add) (m := 4) (cj := []) (bj := ((((!(rin u1 0 64)) || (!(rin u0.Size 1 40))) || (u0.Mul == 0)) || (!(rin u0.Mul (-1000000) 1000000))) || (!(rin u0.Div 1 1000000))) rfl rfl (by kernel_rfl) rfl (by kernel_rfl) (by kernel_rfl) (by kernel_rfl) (fun hg => ld U E 0 (g := [4]) (b := a) (off := 7) (cs := (e23Rr u0)) (ty := 23) rfl (by kernel_rfl) (by kernel_rfl) (by kernel_rfl) (by kernel_rfl) hg) ?_; intro cV aT; clear U
  refine gcl aT E (.bool (rin u0.Add (-1000000) 1000000)) 37 #[i6 u0.Add, i6 (-1000000), i6 1000000] (m := 4) (cj := []) (bj := ((((!(rin u1 0 64)) || (!(rin u0.Size 1 40))) || (u0.Mul == 0)) || (!(rin u0.Mul (-1000000) 1000000))) || (!(rin u0.Div 1 1000000))) rfl rfl (by kernel_rfl) rfl (by kernel_rfl) (by kernel_rfl) (by kernel_rfl) (fun _ => by kernel_rfl) (fun hg => rin_fun u0.Add (-1000000) 1000000 _ _ E.fz) ?_; intro cW cX aU F; clear aT E
  refine gp aU 47 4 [] (((((!(rin u1 0 64)) || (!(rin u0.Size 1 40))) || (u0.Mul == 0)) || (!(rin u0.Mul (-1000000) 1000000))) || (!(rin u0.Div 1 1000000))) (.bool (!(rin u0.Add (-1000000) 1000000))) rfl rfl ?_; intro cY V; clear aU
  refine st V (.bool ((((((!(rin u1 0 64)) || (!(rin u0.Size 1 40))) || (u0.Mul == 0)) || (!(rin u0.Mul (-1000000) 1000000))) || (!(rin u0.Div 1 1000000))) || (!(rin u0.Add (-1000000) 1000000)))) (nog rfl _) rfl (by kernel_rfl) (pk_or V (g := []) (m := 4) (b := ((((!(rin u1 0 64)) || (!(rin u0.Size 1 40))) || (u0.Mul == 0)) || (!(rin u0.Mul (-1000000) 1000000))) || (!(rin u0.Div 1 1000000))) (v := !(rin u0.Add (-1000000) 1000000)) rfl (by kernel_rfl) (by kernel_rfl) (by kernel_rfl) rfl) ?_; intro cZ aV; clear V
  refine s1 aV 49 (.bool ((((((!(rin u1 0 64)) || (!(rin u0.Size 1 40))) || (u0.Mul == 0)) || (!(rin u0.Mul (-1000000) 1000000))) || (!(rin u0.Div 1 1000000))) || (!(rin u0.Add (-1000000) 1000000)))) ?_; intro c0 aW; clear aV
  have aX := aW.atom (((((((!(rin u1 0 64)) || (!(rin u0.Size 1 40))) || (u0.Mul == 0)) || (!(rin u0.Mul (-1000000) 1000000))) || (!(rin u0.Div 1 1000000))) || (!(rin u0.Add (-1000000) 1000000))) == false) (by kernel_rfl); clear aW
  refine gp aX 50 5 [] ((((((!(rin u1 0 64)) || (!(rin u0.Size 1 40))) || (u0.Mul == 0)) || (!(rin u0.Mul (-1000000) 1000000))) || (!(rin u0.Div 1 1000000))) || (!(rin u0.Add (-1000000) 1000000))) (.func (.func 37) #[] #[]) rfl rfl ?_; intro c1 aY; clear aX
  refine gp aY 51 5 [] ((((((!(rin u1 0 64)) || (!(rin u0.Size 1 40))) || (u0.Mul == 0)) || (!(rin u0.Mul (-1000000) 1000000))) || (!(rin u0.Div 1 1000000))) || (!(rin u0.Add (-1000000) 1000000))) (pt a 8) rfl rfl ?_; intro c2 W; clear aY
  refine gd W (i6 u0.Key) (m := 5) (cj := []) (bj := (((((!(rin u1 0 64)) || (!(rin u0.Size 1 40))) || (u0.Mul == 0)) || (!(rin u0.Mul (-1000000) 1000000))) || (!(rin u0.Div 1 1000000))) || (!(rin u0.Add (-1000000) 1000000))) rfl rfl (by kernel_rfl) rfl (by kernel_rfl) (by kernel_rfl) (by kernel_rfl) (fun hg => ld W F 0 (g := [5]) (b := a) (off := 8) (cs := (e23Rr u0)) (ty := 23) rfl (by kernel_rfl) (by kernel_rfl) (by kernel_rfl) (by kernel_rfl) hg) ?_; intro c3 aZ; clear W
  refine gcl aZ F (.bool (rin u0.Key (-1) 255)) 37 #[i6 u0.Key, i6 (-1), i6 255] (m := 5) (cj := []) (bj := (((((!(rin u1 0 64)) || (!(rin u0.Size 1 40))) || (u0.Mul == 0)) || (!(rin u0.Mul (-1000000) 1000000))) || (!(rin u0.Div 1 1000000))) || (!(rin u0.Add (-1000000) 1000000))) rfl rfl (by kernel_rfl) rfl (by kernel_rfl) (by kernel_rfl) (by kernel_rfl) (fun _ => by kernel_rfl) (fun hg => rin_fun u0.Key (-1) 255 _ _ F.fz) ?_; intro c4 c5 a1 h; clear aZ F
  refine gp a1 54 5 [] ((((((!(rin u1 0 64)) || (!(rin u0.Size 1 40))) || (u0.Mul == 0)) || (!(rin u0.Mul (-1000000) 1000000))) || (!(rin u0.Div 1 1000000))) || (!(rin u0.Add (-1000000) 1000000))) (.bool (!(rin u0.Key (-1) 255))) rfl rfl ?_; intro c6 X; clear a1
  refine st X (.bool (((((((!(rin u1 0 64)) || (!(rin u0.Size 1 40))) || (u0.Mul == 0)) || (!(rin u0.Mul (-1000000) 1000000))) || (!(rin u0.Div 1 1000000))) || (!(rin u0.Add (-1000000) 1000000))) || (!(rin u0.Key (-1) 255)))) (nog rfl _) rfl (by kernel_rfl) (pk_or X (g := []) (m := 5) (b := (((((!(rin u1 0 64)) || (!(rin u0.Size 1 40))) || (u0.Mul == 0)) || (!(rin u0.Mul (-1000000) 1000000))) || (!(rin u0.Div 1 1000000))) || (!(rin u0.Add (-1000000) 1000000))) (v := !(rin u0.Key (-1) 255)) rfl (by kernel_rfl) (by kernel_rfl) (by kernel_rfl) rfl) ?_; intro a2 o; clear X
  refine nlH (ao _ _ ?_); clear ao bC
  refine cd o (t := ((((((!(rin u1 0 64)) || (!(rin u0.Size 1 40))) || (u0.Mul == 0)) || (!(rin u0.Mul (-1000000) 1000000))) || (!(rin u0.Div 1 1000000))) || (!(rin u0.Add (-1000000) 1000000))) || (!(rin u0.Key (-1) 255))) (by kernel_rfl) (fun Y => ?_) (fun Y => ?_)
  · -- yes
   have bD := B.1 Y; clear B
   have a4 : Fr 76 [] [] a2 := o.region (by kernel_rfl) (by kernel_rfl); clear o
   refine sqB a4 h [] [] [(4, i6 3)] ?_; intro c7 bE; clear a4
   refine wp_ret ?_
   refine thr ?_
   refine ra1 bE (i6 3) ?_
   exact ⟨3, rfl, bD, h.below⟩
  · -- no
   have G := B.2 Y; clear B
   refine wp_skip ?_
   refine thn ?_
   refine wp_seq ?_
   have a5 : Fr 76 [] [⟨1, [], i6 u1⟩, ⟨2, [], pt a 0⟩, ⟨5, [], .func (.func 37) #[] #[]⟩] a2 := o.region (by kernel_rfl) (by kernel_rfl); clear o
   refine sqH ?_; intro bF a6
   refine bt a5 h 6 [0] [] [(56, .func (.func 37) #[] #[]), (58, i6 u0.Start), (61, i6 (w64 ((w64 (8 * u1)) - 1)))] ?_; intro c8 a8; clear a5
   refine fc a8 h (rin_fun u0.Start 0 (w64 ((w64 (8 * u1)) - 1)) _ _ h.fz) ?_; intro c9 da a9 i; clear a8 h
   refine s1 a9 63 (.bool (!(rin u0.Start 0 (w64 ((w64 (8 * u1)) - 1))))) ?_; intro db p; clear a9
   refine nlH (a6 _ _ ?_); clear a6 bF
   refine cd p (t := !(rin u0.Start 0 (w64 ((w64 (8 * u1)) - 1)))) (by kernel_rfl) (fun aa => ?_) (fun aa => ?_)
   · -- yes
    have bG := G.1 aa; clear G
    refine sqB p i [] [] [(4, i6 7)] ?_; intro dc bH; clear p
    refine wp_ret ?_
    refine thr ?_
    refine ra1 bH (i6 7) ?_
    exact ⟨7, rfl, bG, i.below⟩
   · -- no
    have bI := G.2 aa; clear G
    refine wp_skip ?_
    refine thn ?_
    refine wp_seq ?_
    refine sqH ?_; intro bJ ba
    refine l2 p i 64 0 0 9 (e23Rr u0) rfl rfl ?_; intro dd bb; clear p
    obtain ⟨bK, bc⟩ := bI
    refine ck bb 25 #[.agg (e23Rr u0).toArray] ?_
    refine (rplaces_fun u0 bK _ _ i.fz).mono ?_; rintro _ bd ⟨q, u, bL, rfl, hm⟩; refine ⟨_, rfl, ?_⟩; intro de be; have bf := i.callZ hm; have bM := hm.ext.le; clear hm i bb
    replace z := Fz.le.trans z bM
    have ab : Mem w.heap.size [] w Z [.own t6 3 q u (placesS u0), .row a (e23Rr u0) 23] bL bd := bf; clear bf
    have bN := bc (ab.ownSmall 0 rfl); clear bc
    refine bt be ab 2 [] [] [(66, i6 ((placesS u0).length : Int)), (67, i6 0)] ?_; intro bg bh; clear be
    refine nlH (ba _ _ ?_); clear ba bJ
    refine wp_block ?_
    have bi : Fr 76 [] [⟨1, [], i6 u1⟩, ⟨65, [], .slice q (placesS u0).length u⟩, ⟨66, [], i6 ((placesS u0).length : Int)⟩, ⟨67, [], i6 0⟩] bg := bh.region (by kernel_rfl) (by kernel_rfl); clear bh
    obtain ⟨ac, bO, bk, bP⟩ := ab.freeze 0 rfl
    replace z := Fz.le.trans z bO
    have bl : Mem w.heap.size [] w Z [.row a (e23Rr u0) 23] ac bd := bk; clear bk
    have bm : Fr 76 [] [⟨1, [], i6 u1⟩, ⟨65, [], .slice q (placesS u0).length u⟩, ⟨66, [], i6 ((placesS u0).length : Int)⟩, ⟨67, [], i6 0⟩] bg := bi.region (by kernel_rfl) (by kernel_rfl); clear bi
    obtain ⟨bQ, bR, bS, bT⟩ := bN
    refine lp (ι := Int) (fun s => [⟨1, [], i6 u1⟩, ⟨65, [], .slice q (placesS u0).length u⟩, ⟨66, [], i6 ((placesS u0).length : Int)⟩, ⟨67, [], i6 s⟩]) (fun s => [.row a (e23Rr u0) 23]) (fun s => ac) (fun s => bQ s) (fun s => bR s) 0 bS (by exact bm.region (by kernel_rfl) (by kernel_rfl)) (by exact bl) ?_
    rintro f bU bV bW bn bo
    have bp : Fr 76 [] [⟨1, [], i6 u1⟩, ⟨65, [], .slice q (placesS u0).length u⟩, ⟨66, [], i6 ((placesS u0).length : Int)⟩, ⟨67, [], i6 f⟩] bV := bn; clear bn bm
    have c : Mem w.heap.size [] w Z [.row a (e23Rr u0) 23] ac bW := bo; clear bo bl
    have H := bT f bU
    refine sqB bp c [] [] [(68, .bool (decide (f < ((placesS u0).length : Int))))] ?_; intro df x; clear bp
    refine wp_seq ?_
    refine cd x (t := decide (f < ((placesS u0).length : Int))) (by kernel_rfl) (fun ad => ?_) (fun ad => ?_)
    · -- yes
     have bX := H.1 ad; clear H
     refine wp_skip ?_
     refine thn ?_
     refine wp_seq ?_
     refine wp_block ?_
     refine sqH ?_; intro bY bq
     obtain ⟨bZ, br⟩ := bX
     refine ix x (T := t6) (xs := (placesS u0)) bP f bZ (k := .i64) (e := 3) (bytes := 8) (nog rfl _) rfl (by kernel_rfl) rfl (by kernel_rfl) (by kernel_rfl) (by kernel_rfl) ?_; intro dg dh b0 j di b1 b3 b4 bs; clear x
     have I := br j b1; clear br
     obtain rfl : b0 = ([i6 j] : List Value) := b4
     refine z1 bs c 70 b3 0 (i6 j) rfl ?_; intro dj bu; clear bs
     refine s1 bu 7 (i6 j) ?_; intro dk bv; clear bu
     refine nlH (bq _ _ ?_); clear bq bY
     refine sqB bv c [] [] [(74, .bool (decide (j ≥ (w64 (8 * u1)))))] ?_; intro dl y; clear bv
     refine cd y (t := decide (j ≥ (w64 (8 * u1)))) (by kernel_rfl) (fun ae => ?_) (fun ae => ?_)
     · -- yes
      have b5 := I.1 ae; clear I
      refine sqB y c [] [] [(4, i6 7)] ?_; intro dm b6; clear y
      refine wp_ret ?_
      refine ibr ?_
      refine thr ?_
      refine thr ?_
      refine ibr ?_
      refine thr ?_
      refine ra1 b6 (i6 7) ?_
      exact ⟨7, rfl, b5, c.below⟩
     · -- no
      have bw := I.2 ae; clear I
      refine wp_skip ?_
      refine ibn ?_
      refine thn ?_
      refine rgB y c [] [] [(67, i6 (w64 (f + 1)))] ?_; intro dn b7; clear y
      refine rd ?_
      exact ⟨w64 (f + 1), bw.1, bw.2, (b7.region (by kernel_rfl) (by kernel_rfl)).anyβ _ (by kernel_rfl), c.keep (List.Sublist.cons_cons _ (List.Sublist.slnil))⟩
    · -- no
     have b8 := H.2 ad; clear H
     refine wp_exit ?_
     refine thx ?_
     refine thx ?_
     refine ibx ?_
     refine thn ?_
     refine sqB x c [] [] [(4, i6 0)] ?_; intro dp b9; clear x
     refine wp_ret ?_
     refine ra1 b9 (i6 0) ?_
     exact ⟨0, rfl, b8, c.below⟩

end Go.Proofs.YtdndfbamhnchfaaDoor
set_option linter.unusedVariables false
set_option linter.unusedSimpArgs false
set_option maxRecDepth 100000
set_option maxHeartbeats 0
namespace Go.Proofs.YtdndfbamhnchfaaDoor
open Go.Sy Go.RowKit
theorem gtrim_walk (u0 : List Int) (ao1 : Option Addr) (cap2 : Nat) (Z : Fz) (w : World) (hs3 : SlR (tyInt .u32) Z ao1 cap2 u0) (hZ : Z.on w) {K : (List Int) → Prop} (hp : gtrim_vc u0 K) : Calls Tryd.prog 111 #[.slice ao1 u0.length cap2] w fun e w' => ∃ (r : (List Int)) (ao1001 : Option Addr) (cap1002 : Nat) (Z' : Fz), e = .returned (.slice ao1001 r.length cap1002) ∧ K r ∧ SlR (tyInt .u32) Z' ao1001 cap1002 r ∧ Mem w.heap.size [] w Z [] Z' w' := by
 refine enter0 Tryd.func111 rfl rfl (by kernel_rfl) ?_; intro a0 D; have l := Mem.start w Z hZ; have aE := Fz.le.refl Z
 have ab := hp (hs3.small); clear hp
 refine sqB D l [] [] [] ?_; intro a6 E; clear D
 refine sqB E l [] [] [(3, i6 (u0.length : Int))] ?_; intro F G; clear E
 refine wp_seq ?_
 refine wp_block ?_
 have H : Fr 21 [] [⟨0, [], .slice ao1 u0.length cap2⟩, ⟨3, [], i6 (u0.length : Int)⟩] F := G.region (by kernel_rfl) (by kernel_rfl); clear G
 have I : Fr 21 [] [⟨0, [], .slice ao1 u0.length cap2⟩, ⟨3, [], i6 (u0.length : Int)⟩] F := H.region (by kernel_rfl) (by kernel_rfl); clear H
 obtain ⟨ac, ad, ae, af⟩ := ab
 refine lp (ι := Int) (fun s => [⟨0, [], .slice ao1 u0.length cap2⟩, ⟨3, [], i6 s⟩]) (fun s => []) (fun s => Z) (fun s => ac s) (fun s => ad s) (u0.length : Int) ae (by exact I.region (by kernel_rfl) (by kernel_rfl)) (by exact l) ?_
 rintro a ag ah ai J L
 have M : Fr 21 [] [⟨0, [], .slice ao1 u0.length cap2⟩, ⟨3, [], i6 a⟩] ah := J; clear J I
 have f : Mem w.heap.size [] w Z [] Z ai := L; clear L l
 have m := af a ag
 refine wp_seq ?_
 refine sqH ?_; intro N n
 refine bt M f 3 [] [] [(8, .bool (decide (a > 0)))] ?_; intro aF o; clear M
 rcases Bool.eq_false_or_eq_true (decide (a > 0)) with h | h
 · -- true
  have aj := m.1 h; clear m
  have O := o.reval (d := 8) (c := []) (v := .bool (decide (a > 0))) (by kernel_rfl) (.bool true) (by rw [h]); clear o
  refine bt O f 3 [] [9, 10, 11] [(9, .slice ao1 u0.length cap2), (11, i6 (w64 (a - 1)))] ?_; intro aG u; clear O
  obtain ⟨ak, P⟩ := aj
  refine ix u (T := (tyInt .u32)) (xs := u0) hs3 (w64 (a - 1)) ak (k := .i64) (e := 109) (bytes := 4) (by rw [wanted_of u (b := true) rfl rfl (by kernel_rfl) (by kernel_rfl)]; rfl) rfl (by kernel_rfl) rfl (by kernel_rfl) (by kernel_rfl) (by kernel_rfl) ?_; intro aH aI al i aJ am an ao p; clear u
  have q := P i am; clear P
  obtain rfl : al = ([.int .u32 i] : List Value) := ao
  refine st p (.int .u32 i) (by rw [wanted_of p (b := true) rfl rfl (by kernel_rfl) (by kernel_rfl)]; rfl) rfl (by kernel_rfl) (lz p f.fz an 0 (g := []) rfl (by kernel_rfl) (by kernel_rfl) (by kernel_rfl) rfl) ?_; intro aK Q; clear p
  refine bt Q f 2 [] [14, 15] [(15, .bool (i == 0))] ?_; intro aL j; clear Q
  refine nlH (n _ _ ?_); clear n N
  refine cd j (t := i == 0) (by kernel_rfl) (fun x => ?_) (fun x => ?_)
  · -- yes
   have R := q.1 x; clear q
   refine wp_skip ?_
   refine thn ?_
   refine wp_block ?_
   refine rgB j f [] [] [(3, i6 (w64 (a - 1)))] ?_; intro aM ap; clear j
   refine ibn ?_
   refine rd ?_
   exact ⟨w64 (a - 1), R.1, R.2, (ap.region (by kernel_rfl) (by kernel_rfl)).anyβ _ (by kernel_rfl), f.keep (List.Sublist.slnil)⟩
  · -- no
   have aq := q.2 x; clear q
   refine wp_exit ?_
   refine thx ?_
   refine thx ?_
   refine ibx ?_
   refine thn ?_
   refine sqH ?_; intro ar S
   refine bt j f 2 [] [] [(18, .slice ao1 u0.length cap2), (19, i6 a)] ?_; intro aN U; clear j
   obtain ⟨au, av⟩ := aq
   refine slH U (T := (tyInt .u32)) (xs := u0) hs3 a au (k' := .i64) (e := 109) (bytes := 4) (nog rfl _) rfl (by kernel_rfl) rfl (by kernel_rfl) (by kernel_rfl) (by kernel_rfl) ?_; intro y z aO aP aw V; clear U
   refine s1 V 2 (.slice y (u0.take a.toNat).length z) ?_; intro aQ ax; clear V
   refine nlH (S _ _ ?_); clear S ar
   refine wp_ret ?_
   refine ra1 ax (.slice y (u0.take a.toNat).length z) ?_
   exact ⟨u0.take a.toNat, y, z, Z, rfl, av, aw, f.keep (List.Sublist.slnil)⟩
 · -- false
  have ay := m.2 h; clear m
  have W := o.reval (d := 8) (c := []) (v := .bool (decide (a > 0))) (by kernel_rfl) (.bool false) (by rw [h]); clear o
  refine bt W f 7 [] [9, 10, 11, 12, 13, 14, 15] [(15, .bool false)] ?_; intro aR A; clear W
  refine nlH (n _ _ ?_); clear n N
  refine cdF A (by kernel_rfl) ?_
  refine wp_exit ?_
  refine thx ?_
  refine thx ?_
  refine ibx ?_
  refine thn ?_
  refine sqH ?_; intro az X
  refine bt A f 2 [] [] [(18, .slice ao1 u0.length cap2), (19, i6 a)] ?_; intro aS Y; clear A
  obtain ⟨aA, aB⟩ := ay
  refine slH Y (T := (tyInt .u32)) (xs := u0) hs3 a aA (k' := .i64) (e := 109) (bytes := 4) (nog rfl _) rfl (by kernel_rfl) rfl (by kernel_rfl) (by kernel_rfl) (by kernel_rfl) ?_; intro B C aT aU aC aa; clear Y
  refine s1 aa 2 (.slice B (u0.take a.toNat).length C) ?_; intro aV aD; clear aa
  refine nlH (X _ _ ?_); clear X az
  refine wp_ret ?_
  refine ra1 aD (.slice B (u0.take a.toNat).length C) ?_
  exact ⟨u0.take a.toNat, B, C, Z, rfl, aB, aC, f.keep (List.Sublist.slnil)⟩

theorem gplain_walk (u0 : List Int) (ao1 : Option Addr) (cap2 : Nat) (Z : Fz) (w : World) (hs3 : SlR (tyInt .u32) Z ao1 cap2 u0) (hZ : Z.on w) {K : Int → Prop} (hp : gplain_vc u0 K) : Calls Tryd.prog 137 #[.slice ao1 u0.length cap2] w fun e w' => ∃ r : Int, e = .returned (y6 r) ∧ K r ∧ Below w.heap.size w w' := by
 refine enter0 Tryd.func137 rfl rfl (by kernel_rfl) ?_; intro a0 p; have a := Mem.start w Z hZ; have av := Fz.le.refl Z
 have i := hp (hs3.small); clear hp
 refine sqB p a [] [] [] ?_; intro a6 q; clear p
 refine sqB q a [] [] [(3, y6 0)] ?_; intro a9 s; clear q
 refine wp_seq ?_
 refine sqB s a [] [] [(6, .bool (decide ((u0.length : Int) > 0)))] ?_; intro aw f; clear s
 refine cd f (t := decide ((u0.length : Int) > 0)) (by kernel_rfl) (fun m => ?_) (fun m => ?_)
 · -- yes
  have O := i.1 m; clear i
  refine rgH ?_; intro P u
  refine s1 f 7 (.slice ao1 u0.length cap2) ?_; intro ax v; clear f
  obtain ⟨Q, x⟩ := O
  refine ix v (T := (tyInt .u32)) (xs := u0) hs3 (0 : Int) Q (k := .i64) (e := 109) (bytes := 4) (nog rfl _) rfl (by kernel_rfl) rfl (by kernel_rfl) (by kernel_rfl) (by kernel_rfl) ?_; intro ay az R b aA S U V y; clear v
  have j := x b S; clear x
  obtain rfl : R = ([.int .u32 b] : List Value) := V
  refine z1 y a 9 U 0 (.int .u32 b) rfl ?_; intro aB z; clear y
  refine bt z a 2 [] [] [(3, y6 (wu64 b))] ?_; intro aC A; clear z
  refine nlH (u _ _ ?_); clear u P
  refine thn ?_
  refine wp_seq ?_
  refine sqB A a [] [] [(13, .bool (decide ((u0.length : Int) > 1)))] ?_; intro aD g; clear A
  refine cd g (t := decide ((u0.length : Int) > 1)) (by kernel_rfl) (fun n => ?_) (fun n => ?_)
  · -- yes
   have W := j.1 n; clear j
   refine rgH ?_; intro X B
   refine bt g a 2 [] [] [(14, y6 (wu64 b)), (15, .slice ao1 u0.length cap2)] ?_; intro aE C; clear g
   obtain ⟨Y, D⟩ := W
   refine ix C (T := (tyInt .u32)) (xs := u0) hs3 (1 : Int) Y (k := .i64) (e := 109) (bytes := 4) (nog rfl _) rfl (by kernel_rfl) rfl (by kernel_rfl) (by kernel_rfl) (by kernel_rfl) ?_; intro aF aG aa c aH ab ac ad E; clear C
   have ae := D c ab; clear D
   obtain rfl : aa = ([.int .u32 c] : List Value) := ad
   refine z1 E a 17 ac 0 (.int .u32 c) rfl ?_; intro aI F; clear E
   refine bt F a 4 [] [] [(3, y6 (bOr .u64 (wu64 b) (bShl .u64 (wu64 c) 32)))] ?_; intro aJ G; clear F
   refine nlH (B _ _ ?_); clear B X
   refine thn ?_
   refine sqB G a [] [] [(2, y6 (bOr .u64 (wu64 b) (bShl .u64 (wu64 c) 32)))] ?_; intro aK af; clear G
   refine wp_ret ?_
   refine ra1 af (y6 (bOr .u64 (wu64 b) (bShl .u64 (wu64 c) 32))) ?_
   exact ⟨bOr .u64 (wu64 b) (bShl .u64 (wu64 c) 32), rfl, ae, a.below⟩
  · -- no
   have ag := j.2 n; clear j
   refine wp_skip ?_
   refine thn ?_
   refine sqB g a [] [] [(2, y6 (wu64 b))] ?_; intro aL ah; clear g
   refine wp_ret ?_
   refine ra1 ah (y6 (wu64 b)) ?_
   exact ⟨wu64 b, rfl, ag, a.below⟩
 · -- no
  have l := i.2 m; clear i
  refine wp_skip ?_
  refine thn ?_
  refine wp_seq ?_
  refine sqB f a [] [] [(13, .bool (decide ((u0.length : Int) > 1)))] ?_; intro aM h; clear f
  refine cd h (t := decide ((u0.length : Int) > 1)) (by kernel_rfl) (fun o => ?_) (fun o => ?_)
  · -- yes
   have ai := l.1 o; clear l
   refine rgH ?_; intro aj H
   refine bt h a 2 [] [] [(14, y6 0), (15, .slice ao1 u0.length cap2)] ?_; intro aN I; clear h
   obtain ⟨ak, J⟩ := ai
   refine ix I (T := (tyInt .u32)) (xs := u0) hs3 (1 : Int) ak (k := .i64) (e := 109) (bytes := 4) (nog rfl _) rfl (by kernel_rfl) rfl (by kernel_rfl) (by kernel_rfl) (by kernel_rfl) ?_; intro aO aP al d aQ am an ao L; clear I
   have ap := J d am; clear J
   obtain rfl : al = ([.int .u32 d] : List Value) := ao
   refine z1 L a 17 an 0 (.int .u32 d) rfl ?_; intro aR M; clear L
   refine bt M a 4 [] [] [(3, y6 (bOr .u64 0 (bShl .u64 (wu64 d) 32)))] ?_; intro aS N; clear M
   refine nlH (H _ _ ?_); clear H aj
   refine thn ?_
   refine sqB N a [] [] [(2, y6 (bOr .u64 0 (bShl .u64 (wu64 d) 32)))] ?_; intro aT aq; clear N
   refine wp_ret ?_
   refine ra1 aq (y6 (bOr .u64 0 (bShl .u64 (wu64 d) 32))) ?_
   exact ⟨bOr .u64 0 (bShl .u64 (wu64 d) 32), rfl, ap, a.below⟩
  · -- no
   have ar := l.2 o; clear l
   refine wp_skip ?_
   refine thn ?_
   refine sqB h a [] [] [(2, y6 0)] ?_; intro aU au; clear h
   refine wp_ret ?_
   refine ra1 au (y6 0) ?_
   exact ⟨0, rfl, ar, a.below⟩

theorem gcmp_walk (u0 : List Int) (u1 : List Int) (ao1 : Option Addr) (cap2 : Nat) (ao4 : Option Addr) (cap5 : Nat) (Z : Fz) (w : World) (hs3 : SlR (tyInt .u32) Z ao1 cap2 u0) (hs6 : SlR (tyInt .u32) Z ao4 cap5 u1) (hZ : Z.on w) {K : Int → Prop} (hp : gcmp_vc u0 u1 K) : Calls Tryd.prog 89 #[.slice ao1 u0.length cap2, .slice ao4 u1.length cap5] w fun e w' => ∃ r : Int, e = .returned (i6 r) ∧ K r ∧ Below w.heap.size w w' := by
 refine enter0 Tryd.func89 rfl rfl (by kernel_rfl) ?_; intro a0 J; have b := Mem.start w Z hZ; have bf := Fz.le.refl Z
 have L := hp (hs3.small); clear hp
 have p := L (hs6.small); clear L
 refine sqB J b [] [] [] ?_; intro bg M; clear J
 refine wp_seq ?_
 refine sqB M b [] [] [(10, .bool ((u0.length : Int) != (u1.length : Int)))] ?_; intro bh c; clear M
 refine cd c (t := (u0.length : Int) != (u1.length : Int)) (by kernel_rfl) (fun A => ?_) (fun A => ?_)
 · -- yes
  have q := p.1 A; clear p
  refine wp_seq ?_
  refine sqB c b [] [] [(15, .bool (decide ((u0.length : Int) < (u1.length : Int))))] ?_; intro bi d; clear c
  refine cd d (t := decide ((u0.length : Int) < (u1.length : Int))) (by kernel_rfl) (fun B => ?_) (fun B => ?_)
  · -- yes
   have ar := q.1 B; clear q
   refine sqB d b [] [] [(4, i6 (-1))] ?_; intro bj au; clear d
   refine wp_ret ?_
   refine thr ?_
   refine thr ?_
   refine ra1 au (i6 (-1)) ?_
   exact ⟨-1, rfl, ar, b.below⟩
  · -- no
   have av := q.2 B; clear q
   refine wp_skip ?_
   refine thn ?_
   refine sqB d b [] [] [(4, i6 1)] ?_; intro bk aw; clear d
   refine wp_ret ?_
   refine thr ?_
   refine ra1 aw (i6 1) ?_
   exact ⟨1, rfl, av, b.below⟩
 · -- no
  have ax := p.2 A; clear p
  refine wp_skip ?_
  refine thn ?_
  refine wp_seq ?_
  refine sqB c b [] [] [(5, i6 (w64 ((u0.length : Int) - 1)))] ?_; intro N O; clear c
  refine wp_block ?_
  have P : Fr 41 [] [⟨0, [], .slice ao1 u0.length cap2⟩, ⟨1, [], .slice ao4 u1.length cap5⟩, ⟨5, [], i6 (w64 ((u0.length : Int) - 1))⟩] N := O.region (by kernel_rfl) (by kernel_rfl); clear O
  have Q : Fr 41 [] [⟨0, [], .slice ao1 u0.length cap2⟩, ⟨1, [], .slice ao4 u1.length cap5⟩, ⟨5, [], i6 (w64 ((u0.length : Int) - 1))⟩] N := P.region (by kernel_rfl) (by kernel_rfl); clear P
  obtain ⟨ay, az, aA, aB⟩ := ax
  refine lp (ι := Int) (fun s => [⟨0, [], .slice ao1 u0.length cap2⟩, ⟨1, [], .slice ao4 u1.length cap5⟩, ⟨5, [], i6 s⟩]) (fun s => []) (fun s => Z) (fun s => ay s) (fun s => az s) (w64 ((u0.length : Int) - 1)) aA (by exact Q.region (by kernel_rfl) (by kernel_rfl)) (by exact b) ?_
  rintro a aC aD aE R S
  have U : Fr 41 [] [⟨0, [], .slice ao1 u0.length cap2⟩, ⟨1, [], .slice ao4 u1.length cap5⟩, ⟨5, [], i6 a⟩] aD := R; clear R Q
  have f : Mem w.heap.size [] w Z [] Z aE := S; clear S b
  have u := aB a aC
  refine wp_seq ?_
  refine sqB U f [] [] [(20, .bool (decide (a ≥ 0)))] ?_; intro aF h; clear U
  refine cd h (t := decide (a ≥ 0)) (by kernel_rfl) (fun C => ?_) (fun C => ?_)
  · -- yes
   have aG := u.1 C; clear u
   refine wp_skip ?_
   refine thn ?_
   refine wp_seq ?_
   refine wp_block ?_
   have V : Fr 41 [] [⟨0, [], .slice ao1 u0.length cap2⟩, ⟨1, [], .slice ao4 u1.length cap5⟩, ⟨5, [], i6 a⟩] aF := h.region (by kernel_rfl) (by kernel_rfl); clear h
   refine sqQH mixed (by kernel_rfl) f ?_; intro aH W
   refine q1 V 23 (.slice ao1 u0.length cap2) ?_; intro bl X; clear V
   refine q1 X 24 (i6 a) ?_; intro bm Y; clear X
   obtain ⟨aI, aa⟩ := aG
   refine qix Y (T := (tyInt .u32)) (xs := u0) hs3 a aI (k := .i64) (e := 109) (bytes := 4) (nog rfl _) rfl (by kernel_rfl) rfl (by kernel_rfl) (by kernel_rfl) (by kernel_rfl) ?_; intro bn bo aJ i bp aK aL aM D; clear Y
   have aN := aa i aK; clear aa
   obtain rfl : aJ = ([.int .u32 i] : List Value) := aM
   refine qst D (.int .u32 i) (nog rfl _) rfl (by kernel_rfl) (fun v97 hC => lz D hC.fz aL 0 (g := []) rfl (by kernel_rfl) (by kernel_rfl) (by kernel_rfl) rfl) ?_; intro bq ab; clear D
   refine q1 ab 27 (.slice ao4 u1.length cap5) ?_; intro br ac; clear ab
   refine q1 ac 28 (i6 a) ?_; intro bs ad; clear ac
   obtain ⟨aO, ae⟩ := aN
   refine qix ad (T := (tyInt .u32)) (xs := u1) hs6 a aO (k := .i64) (e := 109) (bytes := 4) (nog rfl _) rfl (by kernel_rfl) rfl (by kernel_rfl) (by kernel_rfl) (by kernel_rfl) ?_; intro bt bu aP j bv aQ aR aS E; clear ad
   have v := ae j aQ; clear ae
   obtain rfl : aP = ([.int .u32 j] : List Value) := aS
   refine qst E (.int .u32 j) (nog rfl _) rfl (by kernel_rfl) (fun v119 hC => lz E hC.fz aR 0 (g := []) rfl (by kernel_rfl) (by kernel_rfl) (by kernel_rfl) rfl) ?_; intro bw af; clear E
   refine q1 af 31 (.bool (i != j)) ?_; intro aT l; clear af
   refine qnl (W _ ?_); clear W aH; intro bx x; clear f
   refine cd l (t := i != j) (by kernel_rfl) (fun F => ?_) (fun F => ?_)
   · -- yes
    have aU := v.1 F; clear v
    refine wp_seq ?_
    have ag : Fr 41 [] [⟨0, [], .slice ao1 u0.length cap2⟩, ⟨1, [], .slice ao4 u1.length cap5⟩, ⟨5, [], i6 a⟩] aT := l.region (by kernel_rfl) (by kernel_rfl); clear l
    refine sqQH mixed (by kernel_rfl) x ?_; intro aV ah
    refine q1 ag 32 (.slice ao1 u0.length cap2) ?_; intro bz ai; clear ag
    refine q1 ai 33 (i6 a) ?_; intro bA aj; clear ai
    obtain ⟨aW, ak⟩ := aU
    refine qix aj (T := (tyInt .u32)) (xs := u0) hs3 a aW (k := .i64) (e := 109) (bytes := 4) (nog rfl _) rfl (by kernel_rfl) rfl (by kernel_rfl) (by kernel_rfl) (by kernel_rfl) ?_; intro bB bC aX m bD aY aZ a1 G; clear aj
    have a2 := ak m aY; clear ak
    obtain rfl : aX = ([.int .u32 m] : List Value) := a1
    refine qst G (.int .u32 m) (nog rfl _) rfl (by kernel_rfl) (fun v150 hC => lz G hC.fz aZ 0 (g := []) rfl (by kernel_rfl) (by kernel_rfl) (by kernel_rfl) rfl) ?_; intro bE al; clear G
    refine q1 al 36 (.slice ao4 u1.length cap5) ?_; intro bF am; clear al
    refine q1 am 37 (i6 a) ?_; intro bG an; clear am
    obtain ⟨a3, ao⟩ := a2
    refine qix an (T := (tyInt .u32)) (xs := u1) hs6 a a3 (k := .i64) (e := 109) (bytes := 4) (nog rfl _) rfl (by kernel_rfl) rfl (by kernel_rfl) (by kernel_rfl) (by kernel_rfl) ?_; intro bH bI a4 n bJ a5 a6 a7 H; clear an
    have y := ao n a5; clear ao
    obtain rfl : a4 = ([.int .u32 n] : List Value) := a7
    refine qst H (.int .u32 n) (nog rfl _) rfl (by kernel_rfl) (fun v172 hC => lz H hC.fz a6 0 (g := []) rfl (by kernel_rfl) (by kernel_rfl) (by kernel_rfl) rfl) ?_; intro bK ap; clear H
    refine q1 ap 40 (.bool (decide (m < n))) ?_; intro bL o; clear ap
    refine qnl (ah _ ?_); clear ah aV; intro bM z; clear x
    refine cd o (t := decide (m < n)) (by kernel_rfl) (fun I => ?_) (fun I => ?_)
    · -- yes
     have a8 := y.1 I; clear y
     refine sqB o z [] [] [(4, i6 (-1))] ?_; intro bN a9; clear o
     refine wp_ret ?_
     refine thr ?_
     refine ibr ?_
     refine thr ?_
     refine thr ?_
     refine ibr ?_
     refine thr ?_
     refine ra1 a9 (i6 (-1)) ?_
     exact ⟨-1, rfl, a8, z.below⟩
    · -- no
     have ba := y.2 I; clear y
     refine wp_skip ?_
     refine thn ?_
     refine sqB o z [] [] [(4, i6 1)] ?_; intro bO bb; clear o
     refine wp_ret ?_
     refine ibr ?_
     refine thr ?_
     refine thr ?_
     refine ibr ?_
     refine thr ?_
     refine ra1 bb (i6 1) ?_
     exact ⟨1, rfl, ba, z.below⟩
   · -- no
    have aq := v.2 F; clear v
    refine wp_skip ?_
    refine ibn ?_
    refine thn ?_
    refine rgB l x [] [] [(5, i6 (w64 (a - 1)))] ?_; intro bP bc; clear l
    refine rd ?_
    exact ⟨w64 (a - 1), aq.1, aq.2, (bc.region (by kernel_rfl) (by kernel_rfl)).anyβ _ (by kernel_rfl), x.keep (List.Sublist.slnil)⟩
  · -- no
   have bd := u.2 C; clear u
   refine wp_exit ?_
   refine thx ?_
   refine thx ?_
   refine ibx ?_
   refine thn ?_
   refine sqB h f [] [] [(4, i6 0)] ?_; intro bQ be; clear h
   refine wp_ret ?_
   refine ra1 be (i6 0) ?_
   exact ⟨0, rfl, bd, f.below⟩

end Go.Proofs.YtdndfbamhnchfaaDoor
set_option linter.unusedVariables false
set_option linter.unusedSimpArgs false
set_option maxRecDepth 100000
set_option maxHeartbeats 0
namespace Go.Proofs.YtdndfbamhnchfaaDoor
open Go.Sy Go.RowKit
theorem gtrim_fun (u0 : List Int) (ao1 : Option Addr) (cap2 : Nat) (Z : Fz) (w : World) (hs3 : SlR (tyInt .u32) Z ao1 cap2 u0) (hZ : Z.on w) : Calls Tryd.prog 111 #[.slice ao1 u0.length cap2] w fun e w' => ∃ (ao1001 : Option Addr) (cap1002 : Nat) (Z' : Fz), e = .returned (.slice ao1001 (gtrimS u0).length cap1002) ∧ SlR (tyInt .u32) Z' ao1001 cap1002 (gtrimS u0) ∧ Mem w.heap.size [] w Z [] Z' w' :=
  (gtrim_walk u0 ao1 cap2 Z w hs3 hZ (gtrim_ok u0)).mono fun _ _ ⟨r, h0, h1, h2, he, hk, f0, hm⟩ => by subst hk; exact ⟨h0, h1, h2, he, f0, hm⟩

theorem gtwin_walk (u0 : List Int) (ao1 : Option Addr) (cap2 : Nat) (Z : Fz) (w : World) (hs3 : SlR (tyInt .u32) Z ao1 cap2 u0) (hZ : Z.on w) {K : (List Int) → Prop} (hp : gtwin_vc u0 K) : Calls Tryd.prog 88 #[.slice ao1 u0.length cap2] w fun e w' => ∃ (r : (List Int)) (ao1001 : Option Addr) (cap1002 : Nat) (Z' : Fz), e = .returned (.slice ao1001 r.length cap1002) ∧ K r ∧ Mem w.heap.size [] w Z [.own (tyInt .u32) 109 ao1001 cap1002 r] Z' w' := by
 refine enter0 Tryd.func88 rfl rfl (by kernel_rfl) ?_; intro u f; have c := Mem.start w Z hZ; have v := Fz.le.refl Z
 have l := hp (hs3.small); clear hp
 refine sqB f c [] [] [] ?_; intro x g; clear f
 refine sqH ?_; intro m h
 refine s1 g 3 (.slice ao1 u0.length cap2) ?_; intro y i; clear g
 have d : Mem w.heap.size [] w Z [.own (tyInt .u32) 109 none 0 ([] : List Int)] Z w := c.addNil (tyInt .u32) 109 (by decide); clear c
 obtain ⟨n, o⟩ := l
 refine ap i d 0 (T := (tyInt .u32)) (xs := ([] : List Int)) (ys := u0) (ao := none) (cap := 0) (ao2 := ao1) (cap2 := cap2) (t := 67) (e := 109) (bytes := 4) (nog rfl _) rfl (by kernel_rfl) rfl (by kernel_rfl) (by kernel_rfl) (by kernel_rfl) rfl (Src.fz (by decide) d.fz hs3) n ?_; intro a b z p A j k; clear i d
 have q : Mem w.heap.size [] w Z [.own (tyInt .u32) 109 a b (([] : List Int) ++ u0)] Z p := k; clear k
 refine s1 j 2 (.slice a (([] : List Int) ++ u0).length b) ?_; intro B s; clear j
 refine nlH (h _ _ ?_); clear h m
 refine wp_ret ?_
 refine ra1 s (.slice a (([] : List Int) ++ u0).length b) ?_
 exact ⟨([] : List Int) ++ u0, a, b, Z, rfl, o, q.keep (List.Sublist.cons_cons _ (List.Sublist.slnil))⟩

theorem gwords_walk (u0 : Int)  (Z : Fz) (w : World)  (hZ : Z.on w) {K : (List Int) → Prop} (hp : gwords_vc u0 K) : Calls Tryd.prog 110 #[y6 u0] w fun e w' => ∃ (r : (List Int)) (ao1001 : Option Addr) (cap1002 : Nat) (Z' : Fz), e = .returned (.slice ao1001 r.length cap1002) ∧ K r ∧ SlR (tyInt .u32) Z' ao1001 cap1002 r ∧ Mem w.heap.size [] w Z [] Z' w' := by
 refine enter0 Tryd.func110 rfl rfl (by kernel_rfl) ?_; intro H j; have a := Mem.start w Z hZ; have c := Fz.le.refl Z
 refine sqB j a [] [] [] ?_; intro I k; clear j
 refine sqH ?_; intro z l
 refine bt k a 5 [] [] [(4, .int .u32 (wu32 u0)), (7, .int .u32 (wu32 (bShr .u64 u0 32)))] ?_; intro J m; clear k
 refine nw m a (fun b => .slice (sm b) 2 2) [.int .u32 (wu32 u0), .int .u32 (wu32 (bShr .u64 u0 32))] 109 ?_; intro d L n o p; clear m a
 have A : Mem w.heap.size [] w Z [.own (tyInt .u32) 109 (sm d) 2 ([wu32 u0, wu32 (bShr .u64 u0 32)] : List Int)] Z n := p.rowOwn (T := (tyInt .u32)) (xs := ([wu32 u0, wu32 (bShr .u64 u0 32)] : List Int)) 0 rfl (by decide) (by show 2 ≤ lim; decide) ((RepAll.one (T := (tyInt .u32)) (x := wu32 u0) rfl).append (RepAll.one (T := (tyInt .u32)) (x := wu32 (bShr .u64 u0 32)) rfl)); clear p
 obtain ⟨B, C, q, f⟩ := A.freeze 0 rfl
 replace c := Fz.le.trans c C
 have g : Mem w.heap.size [] w Z [] B n := q; clear q
 refine ck o 111 #[.slice (sm d) ([wu32 u0, wu32 (bShr .u64 u0 32)] : List Int).length 2] ?_
 refine (gtrim_fun ([wu32 u0, wu32 (bShr .u64 u0 32)] : List Int) (sm d) 2 _ _ f g.fz).mono ?_; rintro _ D ⟨h, i, s, rfl, t, hm⟩; refine ⟨_, rfl, ?_⟩; intro M u; have v := g.callZ hm; have y := hm.ext.le; clear hm g o
 replace f := f.mono y
 replace c := Fz.le.trans c y
 have E : Mem w.heap.size [] w Z [] s D := v; clear v
 have F := hp (t.small); clear hp
 refine s1 u 2 (.slice h (gtrimS ([wu32 u0, wu32 (bShr .u64 u0 32)] : List Int)).length i) ?_; intro N G; clear u
 refine nlH (l _ _ ?_); clear l z
 refine wp_ret ?_
 refine ra1 G (.slice h (gtrimS ([wu32 u0, wu32 (bShr .u64 u0 32)] : List Int)).length i) ?_
 exact ⟨(gtrimS ([wu32 u0, wu32 (bShr .u64 u0 32)] : List Int)), h, i, s, rfl, F, t, E.keep (List.Sublist.slnil)⟩

theorem gmul_walk (u0 : List Int) (u1 : List Int) (ao1 : Option Addr) (cap2 : Nat) (ao4 : Option Addr) (cap5 : Nat) (Z : Fz) (w : World) (hs3 : SlR (tyInt .u32) Z ao1 cap2 u0) (hs6 : SlR (tyInt .u32) Z ao4 cap5 u1) (hZ : Z.on w) {K : (List Int) → Prop} (hp : gmul_vc u0 u1 K) : Calls Tryd.prog 109 #[.slice ao1 u0.length cap2, .slice ao4 u1.length cap5] w fun e w' => ∃ (r : (List Int)) (ao1001 : Option Addr) (cap1002 : Nat) (Z' : Fz), e = .returned (.slice ao1001 r.length cap1002) ∧ K r ∧ SlR (tyInt .u32) Z' ao1001 cap1002 r ∧ Mem w.heap.size [] w Z [] Z' w' := by
 refine enter0 Tryd.func109 rfl rfl (by kernel_rfl) ?_; intro a0 U; have n := Mem.start w Z hZ; have y := Fz.le.refl Z
 have V := hp (hs3.small); clear hp
 have A := V (hs6.small); clear V
 refine sqB U n [] [] [] ?_; intro ch W; clear U
 refine wp_seq ?_
 refine sqB W n [] [] [(16, .bool (((u0.length : Int) == 0) || ((u1.length : Int) == 0)))] ?_; intro ci q; clear W
 refine cd q (t := ((u0.length : Int) == 0) || ((u1.length : Int) == 0)) (by kernel_rfl) (fun G => ?_) (fun G => ?_)
 ·
  have a6 := A.1 G; clear A
  refine sqB q n [] [] [(4, .slice none 0 0)] ?_; intro cj a7; clear q
  refine wp_ret ?_
  refine thr ?_
  refine ra1 a7 (.slice none 0 0) ?_
  exact ⟨[], none, 0, Z, rfl, a6, (SlR.nil _ _), n.keep (List.Sublist.slnil)⟩
 have a8 := A.2 G; clear A
 refine wp_skip ?_
 refine thn ?_
 refine sqH ?_; intro a9 X
 refine bt q n 5 [] [] [(21, i6 (w64 ((u0.length : Int) + (u1.length : Int))))] ?_; intro cl Y; clear q
 obtain ⟨cm, ba⟩ := a8
 refine mks Y n (T := (tyInt .u32)) (w64 ((u0.length : Int) + (u1.length : Int))) (w64 ((u0.length : Int) + (u1.length : Int))) (k := .i64) (k' := .i64) (e := 109) (bytes := 4) (zs := [.int .u32 0]) (z := 0) (by simp only [lim]; omega) (nog rfl _) rfl (by kernel_rfl) rfl (by kernel_rfl) (by kernel_rfl) (by kernel_rfl) (by kernel_rfl) rfl ?_; intro b cn bb aa ab; clear Y n
 have H : Mem w.heap.size [] w Z [.own (tyInt .u32) 109 (sm b) (w64 ((u0.length : Int) + (u1.length : Int))).toNat (List.replicate (w64 ((u0.length : Int) + (u1.length : Int))).toNat (0 : Int))] Z bb := ab; clear ab
 refine s1 aa 5 (.slice (sm b) (List.replicate (w64 ((u0.length : Int) + (u1.length : Int))).toNat (0 : Int)).length (w64 ((u0.length : Int) + (u1.length : Int))).toNat) ?_; intro co ac; clear aa
 refine nlH (X _ _ ?_); clear X a9
 refine wp_seq ?_
 refine sqB ac H [] [] [(6, i6 0)] ?_; intro ad ae; clear ac
 refine wp_block ?_
 have af : Fr 75 [] [⟨0, [], .slice ao1 u0.length cap2⟩, ⟨1, [], .slice ao4 u1.length cap5⟩, ⟨5, [], .slice (sm b) (List.replicate (w64 ((u0.length : Int) + (u1.length : Int))).toNat (0 : Int)).length (w64 ((u0.length : Int) + (u1.length : Int))).toNat⟩, ⟨6, [], i6 0⟩] ad := ae.reg; clear ae
 have ag : Fr 75 [] [⟨0, [], .slice ao1 u0.length cap2⟩, ⟨1, [], .slice ao4 u1.length cap5⟩, ⟨5, [], .slice (sm b) (List.replicate (w64 ((u0.length : Int) + (u1.length : Int))).toNat (0 : Int)).length (w64 ((u0.length : Int) + (u1.length : Int))).toNat⟩, ⟨6, [], i6 0⟩] ad := af.reg; clear af
 obtain ⟨bc, bd, be, bf⟩ := ba
 refine lp (ι := Int × (List Int)) (fun s => [⟨0, [], .slice ao1 u0.length cap2⟩, ⟨1, [], .slice ao4 u1.length cap5⟩, ⟨5, [], .slice (sm b) s.2.length (w64 ((u0.length : Int) + (u1.length : Int))).toNat⟩, ⟨6, [], i6 s.1⟩]) (fun s => [.own (tyInt .u32) 109 (sm b) (w64 ((u0.length : Int) + (u1.length : Int))).toNat s.2]) (fun s => Z) (fun s => bc s.1 s.2) (fun s => bd s.1 s.2) ⟨0, (List.replicate (w64 ((u0.length : Int) + (u1.length : Int))).toNat (0 : Int))⟩ be (by exact ag.reg) (by exact H) ?_
 rintro ⟨a, l⟩ bg bh ah ai aj
 have ak : Fr 75 [] [⟨0, [], .slice ao1 u0.length cap2⟩, ⟨1, [], .slice ao4 u1.length cap5⟩, ⟨5, [], .slice (sm b) l.length (w64 ((u0.length : Int) + (u1.length : Int))).toNat⟩, ⟨6, [], i6 a⟩] bh := ai; clear ai ag
 have p : Mem w.heap.size [] w Z [.own (tyInt .u32) 109 (sm b) (w64 ((u0.length : Int) + (u1.length : Int))).toNat l] Z ah := aj; clear aj H
 have B := bf a l bg
 refine wp_seq ?_
 refine sqB ak p [] [] [(26, .bool (decide (a < (u0.length : Int))))] ?_; intro cp v; clear ak
 refine cd v (t := decide (a < (u0.length : Int))) (by kernel_rfl) (fun I => ?_) (fun I => ?_)
 ·
  have bi := B.1 I; clear B
  refine wp_skip ?_
  refine thn ?_
  refine wp_seq ?_
  refine wp_block ?_
  refine sqB v p [] [] [(7, y6 0)] ?_; intro cq al; clear v
  refine wp_seq ?_
  refine sqB al p [] [] [(8, i6 0)] ?_; intro am an; clear al
  refine wp_block ?_
  have ao : Fr 75 [] [⟨0, [], .slice ao1 u0.length cap2⟩, ⟨1, [], .slice ao4 u1.length cap5⟩, ⟨5, [], .slice (sm b) l.length (w64 ((u0.length : Int) + (u1.length : Int))).toNat⟩, ⟨6, [], i6 a⟩, ⟨7, [], y6 0⟩, ⟨8, [], i6 0⟩] am := an.reg; clear an
  have ap : Fr 75 [] [⟨0, [], .slice ao1 u0.length cap2⟩, ⟨1, [], .slice ao4 u1.length cap5⟩, ⟨5, [], .slice (sm b) l.length (w64 ((u0.length : Int) + (u1.length : Int))).toNat⟩, ⟨6, [], i6 a⟩, ⟨7, [], y6 0⟩, ⟨8, [], i6 0⟩] am := ao.reg; clear ao
  obtain ⟨bj, bk, bl, bm⟩ := bi
  refine lp (ι := Int × Int × (List Int)) (fun s => [⟨0, [], .slice ao1 u0.length cap2⟩, ⟨1, [], .slice ao4 u1.length cap5⟩, ⟨5, [], .slice (sm b) s.2.2.length (w64 ((u0.length : Int) + (u1.length : Int))).toNat⟩, ⟨6, [], i6 a⟩, ⟨7, [], y6 s.1⟩, ⟨8, [], i6 s.2.1⟩]) (fun s => [.own (tyInt .u32) 109 (sm b) (w64 ((u0.length : Int) + (u1.length : Int))).toNat s.2.2]) (fun s => Z) (fun s => bj s.1 s.2.1 s.2.2) (fun s => bk s.1 s.2.1 s.2.2) ⟨0, 0, l⟩ bl (by exact ap.reg) (by exact p) ?_
  rintro ⟨d, c, f⟩ bn bo bp aq ar
  have au : Fr 75 [] [⟨0, [], .slice ao1 u0.length cap2⟩, ⟨1, [], .slice ao4 u1.length cap5⟩, ⟨5, [], .slice (sm b) f.length (w64 ((u0.length : Int) + (u1.length : Int))).toNat⟩, ⟨6, [], i6 a⟩, ⟨7, [], y6 d⟩, ⟨8, [], i6 c⟩] bo := aq; clear aq ap
  have o : Mem w.heap.size [] w Z [.own (tyInt .u32) 109 (sm b) (w64 ((u0.length : Int) + (u1.length : Int))).toNat f] Z bp := ar; clear ar p
  have C := bm d c f bn
  refine wp_seq ?_
  refine sqB au o [] [] [(32, .bool (decide (c < (u1.length : Int))))] ?_; intro bq x; clear au
  refine cd x (t := decide (c < (u1.length : Int))) (by kernel_rfl) (fun J => ?_) (fun J => ?_)
  ·
   have br := C.1 J; clear C
   refine wp_skip ?_
   refine thn ?_
   refine wp_seq ?_
   refine wp_block ?_
   have av : Fr 75 [] [⟨0, [], .slice ao1 u0.length cap2⟩, ⟨1, [], .slice ao4 u1.length cap5⟩, ⟨5, [], .slice (sm b) f.length (w64 ((u0.length : Int) + (u1.length : Int))).toNat⟩, ⟨6, [], i6 a⟩, ⟨7, [], y6 d⟩, ⟨8, [], i6 c⟩] bq := x.reg; clear x
   refine wp_seq (rgS mixed o [(0, true), (1, true), (2, true), (6, true), (7, true), (12, true), (13, true), (14, true), (15, true), (3, true), (4, true), (5, true), (8, true), (9, true), (10, true), (11, true), (16, false), (17, false), (18, true), (19, true), (20, true), (21, true)] [] [] [] ?_)
   intro bs aw cr m; clear o
   have ax := Fz.le.refl Z
   refine cS av 9 [] [] [(35, y6 d), (36, .slice ao1 u0.length cap2), (37, i6 a), (41, .slice ao4 u1.length cap5), (42, i6 c), (47, .slice (sm b) f.length (w64 ((u0.length : Int) + (u1.length : Int))).toNat), (50, i6 (w64 (a + c)))] ?_; intro cs ay; clear av
   obtain ⟨bu, az⟩ := br
   refine cix rfl ay (T := (tyInt .u32)) (xs := u0) hs3 a bu (k := .i64) (e := 109) (bytes := 4) (nog rfl _) rfl (by kernel_rfl) rfl (by kernel_rfl) (by kernel_rfl) (by kernel_rfl) ?_; intro bv bw bx h ct bz bA bB L; clear ay
   have bC := az h bz; clear az
   obtain rfl : bx = ([.int .u32 h] : List Value) := bB
   refine cst rfl L (.int .u32 h) (nog rfl _) rfl (by kernel_rfl) (fun v152 hC => lz L hC.fz bA 0 (g := []) rfl (by kernel_rfl) (by kernel_rfl) (by kernel_rfl) rfl) ?_; intro cu aA; clear L
   refine cS aA 1 [] [] [(40, y6 (wu64 h))] ?_; intro cv aB; clear aA
   obtain ⟨bD, aC⟩ := bC
   refine cix rfl aB (T := (tyInt .u32)) (xs := u1) hs6 c bD (k := .i64) (e := 109) (bytes := 4) (nog rfl _) rfl (by kernel_rfl) rfl (by kernel_rfl) (by kernel_rfl) (by kernel_rfl) ?_; intro bE bF bG i cw bH bI bJ M; clear aB
   have bK := aC i bH; clear aC
   obtain rfl : bG = ([.int .u32 i] : List Value) := bJ
   refine cst rfl M (.int .u32 i) (nog rfl _) rfl (by kernel_rfl) (fun v170 hC => lz M hC.fz bI 0 (g := []) rfl (by kernel_rfl) (by kernel_rfl) (by kernel_rfl) rfl) ?_; intro cx aD; clear M
   refine cS aD 2 [] [] [(46, y6 (wu64 ((wu64 h) * (wu64 i))))] ?_; intro cy aE; clear aD
   refine eS rfl ?_; intro bL aF
   obtain ⟨bM, aG⟩ := bK
   refine ixo aE m 0 (T := (tyInt .u32)) (xs := f) (w64 (a + c)) bM (k := .i64) (e := 109) (bytes := 4) (nog rfl _) rfl (by kernel_rfl) rfl (by kernel_rfl) (by kernel_rfl) rfl (by kernel_rfl) ?_; intro bN cz bO aH; clear aE
   obtain rfl : b = bN := by simpa using bO
   refine nl (qnI (aF _ _ (m.cst ax []) ?_)); clear aF bL
   refine eS rfl ?_; intro bP aI
   obtain ⟨j, bQ, bR⟩ := gxq aG (by first | omega | (simp only [List.length_set] at *; omega)); clear aG
   obtain ⟨bS, bT, bU⟩ := own_el m 0 (T := (tyInt .u32)) (xs := f) rfl (w64 (a + c)).toNat bQ
   obtain rfl : bS = ([.int .u32 j] : List Value) := bT
   refine lc1 aH 52 (.int .u32 j) (bU 0 _ rfl) rfl ?_; intro cA aJ; clear aH
   refine nl (qnI (aI _ _ (m.cst ax []) ?_)); clear aI bP
   refine cS aJ 4 [] [] [(7, y6 (wu64 (d + (wu64 ((wu64 ((wu64 h) * (wu64 i))) + (wu64 j))))))] ?_; intro cB aK; clear aJ
   refine nS (aw _ _ ?_); clear aw bs
   refine thn ?_
   refine sqH ?_; intro bV aL
   refine bt aK m 6 [] [] [(56, .slice (sm b) f.length (w64 ((u0.length : Int) + (u1.length : Int))).toNat), (59, i6 (w64 (a + c))), (61, .int .u32 (wu32 (wu64 (d + (wu64 ((wu64 ((wu64 h) * (wu64 i))) + (wu64 j)))))))] ?_; intro cC aM; clear aK
   obtain ⟨bW, aN⟩ := bR
   refine ixo aM m 0 (T := (tyInt .u32)) (xs := f) (w64 (a + c)) bW (k := .i64) (e := 109) (bytes := 4) (nog rfl _) rfl (by kernel_rfl) rfl (by kernel_rfl) (by kernel_rfl) rfl (by kernel_rfl) ?_; intro bX bY bZ D; clear aM
   obtain rfl : b = bX := by simpa using bZ
   refine so D m 0 (T := (tyInt .u32)) (xs := f) (w64 (a + c)).toNat (wu32 (wu64 (d + (wu64 ((wu64 ((wu64 h) * (wu64 i))) + (wu64 j)))))) (u := .int .u32 (wu32 (wu64 (d + (wu64 ((wu64 ((wu64 h) * (wu64 i))) + (wu64 j))))))) (nog rfl _) rfl rfl (by kernel_rfl) rfl (by kernel_rfl) rfl (by kernel_rfl) (by first | omega | (simp only [List.length_set] at *; omega)) rfl ?_; intro b0 aO; clear m
   have aP : Fr 75 [] [⟨0, [], .slice ao1 u0.length cap2⟩, ⟨1, [], .slice ao4 u1.length cap5⟩, ⟨5, [], .slice (sm b) (f.set (w64 (a + c)).toNat (wu32 (wu64 (d + (wu64 ((wu64 ((wu64 h) * (wu64 i))) + (wu64 j))))))).length (w64 ((u0.length : Int) + (u1.length : Int))).toNat⟩, ⟨6, [], i6 a⟩, ⟨7, [], y6 (wu64 (d + (wu64 ((wu64 ((wu64 h) * (wu64 i))) + (wu64 j)))))⟩, ⟨8, [], i6 c⟩, ⟨35, [], y6 d⟩, ⟨36, [], .slice ao1 u0.length cap2⟩, ⟨37, [], i6 a⟩, ⟨38, [], pt bv bw⟩, ⟨39, [], .int .u32 h⟩, ⟨40, [], y6 (wu64 h)⟩, ⟨41, [], .slice ao4 u1.length cap5⟩, ⟨42, [], i6 c⟩, ⟨43, [], pt bE bF⟩, ⟨44, [], .int .u32 i⟩, ⟨46, [], y6 (wu64 ((wu64 h) * (wu64 i)))⟩, ⟨47, [], .slice (sm b) (f.set (w64 (a + c)).toNat (wu32 (wu64 (d + (wu64 ((wu64 ((wu64 h) * (wu64 i))) + (wu64 j))))))).length (w64 ((u0.length : Int) + (u1.length : Int))).toNat⟩, ⟨50, [], i6 (w64 (a + c))⟩, ⟨51, [], .pointer (some ⟨b, (w64 (a + c)).toNat * 1, none⟩)⟩, ⟨52, [], .int .u32 j⟩, ⟨56, [], .slice (sm b) (f.set (w64 (a + c)).toNat (wu32 (wu64 (d + (wu64 ((wu64 ((wu64 h) * (wu64 i))) + (wu64 j))))))).length (w64 ((u0.length : Int) + (u1.length : Int))).toNat⟩, ⟨59, [], i6 (w64 (a + c))⟩, ⟨61, [], .int .u32 (wu32 (wu64 (d + (wu64 ((wu64 ((wu64 h) * (wu64 i))) + (wu64 j))))))⟩, ⟨62, [], .pointer (some ⟨b, (w64 (a + c)).toNat * 1, none⟩)⟩] bY := by (try simp only [List.length_set] at D); (try simp only [List.length_set]); exact D.reg
   clear D
   have N : Mem w.heap.size [] w Z [.own (tyInt .u32) 109 (sm b) (w64 ((u0.length : Int) + (u1.length : Int))).toNat (f.set (w64 (a + c)).toNat (wu32 (wu64 (d + (wu64 ((wu64 ((wu64 h) * (wu64 i))) + (wu64 j)))))))] Z b0 := aO; clear aO
   refine nlH (aL _ _ ?_); clear aL bV
   refine rgB aP N [] [] [(7, y6 (bShr .u64 (wu64 (d + (wu64 ((wu64 ((wu64 h) * (wu64 i))) + (wu64 j))))) 32))] ?_; intro cD aQ; clear aP
   refine ibn ?_
   refine thn ?_
   refine rgB aQ N [] [] [(8, i6 (w64 (c + 1)))] ?_; intro cE b1; clear aQ
   refine rd ?_
   exact ⟨⟨bShr .u64 (wu64 (d + (wu64 ((wu64 ((wu64 h) * (wu64 i))) + (wu64 j))))) 32, w64 (c + 1), f.set (w64 (a + c)).toNat (wu32 (wu64 (d + (wu64 ((wu64 ((wu64 h) * (wu64 i))) + (wu64 j))))))⟩, aN.1, aN.2, (b1.reg).anyβ _ (by kernel_rfl), N.keep (List.Sublist.cons_cons _ (List.Sublist.slnil))⟩
  have b2 := C.2 J; clear C
  refine wp_exit ?_
  refine thx ?_
  refine thx ?_
  refine ibx ?_
  refine thn ?_
  refine rgH ?_; intro b3 aR
  refine bt x o 7 [] [] [(65, .slice (sm b) f.length (w64 ((u0.length : Int) + (u1.length : Int))).toNat), (69, i6 (w64 (a + (u1.length : Int)))), (71, .int .u32 (wu32 d))] ?_; intro cF aS; clear x
  obtain ⟨b4, aT⟩ := b2
  refine ixo aS o 0 (T := (tyInt .u32)) (xs := f) (w64 (a + (u1.length : Int))) b4 (k := .i64) (e := 109) (bytes := 4) (nog rfl _) rfl (by kernel_rfl) rfl (by kernel_rfl) (by kernel_rfl) rfl (by kernel_rfl) ?_; intro b5 b6 b7 E; clear aS
  obtain rfl : b = b5 := by simpa using b7
  refine so E o 0 (T := (tyInt .u32)) (xs := f) (w64 (a + (u1.length : Int))).toNat (wu32 d) (u := .int .u32 (wu32 d)) (nog rfl _) rfl rfl (by kernel_rfl) rfl (by kernel_rfl) rfl (by kernel_rfl) (by first | omega | (simp only [List.length_set] at *; omega)) rfl ?_; intro b8 aU; clear o
  have aV : Fr 75 [] [⟨0, [], .slice ao1 u0.length cap2⟩, ⟨1, [], .slice ao4 u1.length cap5⟩, ⟨5, [], .slice (sm b) (f.set (w64 (a + (u1.length : Int))).toNat (wu32 d)).length (w64 ((u0.length : Int) + (u1.length : Int))).toNat⟩, ⟨6, [], i6 a⟩, ⟨7, [], y6 d⟩, ⟨8, [], i6 c⟩, ⟨32, [], .bool (decide (c < (u1.length : Int)))⟩, ⟨65, [], .slice (sm b) (f.set (w64 (a + (u1.length : Int))).toNat (wu32 d)).length (w64 ((u0.length : Int) + (u1.length : Int))).toNat⟩, ⟨69, [], i6 (w64 (a + (u1.length : Int)))⟩, ⟨71, [], .int .u32 (wu32 d)⟩, ⟨72, [], .pointer (some ⟨b, (w64 (a + (u1.length : Int))).toNat * 1, none⟩)⟩] b6 := by (try simp only [List.length_set] at E); (try simp only [List.length_set]); exact E.reg
  clear E
  have aW : Mem w.heap.size [] w Z [.own (tyInt .u32) 109 (sm b) (w64 ((u0.length : Int) + (u1.length : Int))).toNat (f.set (w64 (a + (u1.length : Int))).toNat (wu32 d))] Z b8 := aU; clear aU
  refine nlH (aR _ _ ?_); clear aR b3
  refine ibn ?_
  refine thn ?_
  refine rgB aV aW [] [] [(6, i6 (w64 (a + 1)))] ?_; intro cG b9; clear aV
  refine rd ?_
  exact ⟨⟨w64 (a + 1), f.set (w64 (a + (u1.length : Int))).toNat (wu32 d)⟩, aT.1, aT.2, (b9.reg).anyβ _ (by kernel_rfl), aW.keep (List.Sublist.cons_cons _ (List.Sublist.slnil))⟩
 have aX := B.2 I; clear B
 refine wp_exit ?_
 refine thx ?_
 refine thx ?_
 refine ibx ?_
 refine thn ?_
 refine sqH ?_; intro ca aY
 refine s1 v 73 (.slice (sm b) l.length (w64 ((u0.length : Int) + (u1.length : Int))).toNat) ?_; intro cH aZ; clear v
 obtain ⟨cb, O, a1, P⟩ := p.freeze 0 rfl
 replace hs3 := hs3.mono O
 replace hs6 := hs6.mono O
 replace y := Fz.le.trans y O
 have Q : Mem w.heap.size [] w Z [] cb ah := a1; clear a1
 refine ck aZ 111 #[.slice (sm b) l.length (w64 ((u0.length : Int) + (u1.length : Int))).toNat] ?_
 refine (gtrim_fun l (sm b) (w64 ((u0.length : Int) + (u1.length : Int))).toNat _ _ P Q.fz).mono ?_; rintro _ cc ⟨R, S, a2, rfl, a3, hm⟩; refine ⟨_, rfl, ?_⟩; intro cI a4; have a5 := Q.callZ hm; have F := hm.ext.le; clear hm Q aZ
 replace hs3 := hs3.mono F
 replace hs6 := hs6.mono F
 replace P := P.mono F
 replace y := Fz.le.trans y F
 have ce : Mem w.heap.size [] w Z [] a2 cc := a5; clear a5
 have cf := aX (a3.small); clear aX
 refine s1 a4 4 (.slice R (gtrimS l).length S) ?_; intro cJ cg; clear a4
 refine nlH (aY _ _ ?_); clear aY ca
 refine wp_ret ?_
 refine ra1 cg (.slice R (gtrimS l).length S) ?_
 exact ⟨(gtrimS l), R, S, a2, rfl, cf, a3, ce.keep (List.Sublist.slnil)⟩

theorem gadd_walk (u0 : List Int) (u1 : List Int) (ao1 : Option Addr) (cap2 : Nat) (ao4 : Option Addr) (cap5 : Nat) (Z : Fz) (w : World) (hs3 : SlR (tyInt .u32) Z ao1 cap2 u0) (hs6 : SlR (tyInt .u32) Z ao4 cap5 u1) (hZ : Z.on w) {K : (List Int) → Prop} (hp : gadd_vc u0 u1 K) : Calls Tryd.prog 85 #[.slice ao1 u0.length cap2, .slice ao4 u1.length cap5] w fun e w' => ∃ (r : (List Int)) (ao1001 : Option Addr) (cap1002 : Nat) (Z' : Fz), e = .returned (.slice ao1001 r.length cap1002) ∧ K r ∧ SlR (tyInt .u32) Z' ao1001 cap1002 r ∧ Mem w.heap.size [] w Z [] Z' w' := by
 refine enter0 Tryd.func85 rfl rfl (by kernel_rfl) ?_; intro a0 am; have o := Mem.start w Z hZ; have p := Fz.le.refl Z
 have an := hp (hs3.small); clear hp
 have B := an (hs6.small); clear an
 refine sqB am o [] [] [] ?_; intro d2 ao; clear am
 refine wp_seq ?_
 refine sqB ao o [] [] [(12, .bool (decide ((u0.length : Int) < (u1.length : Int))))] ?_; intro d3 q; clear ao
 refine cd q (t := decide ((u0.length : Int) < (u1.length : Int))) (by kernel_rfl) (fun R => ?_) (fun R => ?_)
 ·
  have cb := B.1 R; clear B
  refine rgB q o [] [] [(0, .slice ao4 u1.length cap5), (1, .slice ao1 u0.length cap2)] ?_; intro d4 ap; clear q
  refine thn ?_
  refine sqH ?_; intro cc aq
  refine bt ap o 3 [] [] [(17, i6 (w64 ((u1.length : Int) + 1)))] ?_; intro d5 ar; clear ap
  obtain ⟨d6, ce⟩ := cb
  refine mks ar o (T := (tyInt .u32)) (w64 ((u1.length : Int) + 1)) (w64 ((u1.length : Int) + 1)) (k := .i64) (k' := .i64) (e := 109) (bytes := 4) (zs := [.int .u32 0]) (z := 0) (by simp only [lim]; omega) (nog rfl _) rfl (by kernel_rfl) rfl (by kernel_rfl) (by kernel_rfl) (by kernel_rfl) (by kernel_rfl) rfl ?_; intro f d7 cf au av; clear ar o
  have C : Mem w.heap.size [] w Z [.own (tyInt .u32) 109 (sm f) (w64 ((u1.length : Int) + 1)).toNat (List.replicate (w64 ((u1.length : Int) + 1)).toNat (0 : Int))] Z cf := av; clear av
  refine s1 au 5 (.slice (sm f) (List.replicate (w64 ((u1.length : Int) + 1)).toNat (0 : Int)).length (w64 ((u1.length : Int) + 1)).toNat) ?_; intro d8 aw; clear au
  refine nlH (aq _ _ ?_); clear aq cc
  refine sqB aw C [] [] [(6, y6 0)] ?_; intro d9 ax; clear aw
  refine wp_seq ?_
  refine sqB ax C [] [] [(7, i6 0)] ?_; intro ay az; clear ax
  refine wp_block ?_
  have aA : Fr 58 [] [⟨0, [], .slice ao4 u1.length cap5⟩, ⟨1, [], .slice ao1 u0.length cap2⟩, ⟨5, [], .slice (sm f) (List.replicate (w64 ((u1.length : Int) + 1)).toNat (0 : Int)).length (w64 ((u1.length : Int) + 1)).toNat⟩, ⟨6, [], y6 0⟩, ⟨7, [], i6 0⟩] ay := az.reg; clear az
  have aB : Fr 58 [] [⟨0, [], .slice ao4 u1.length cap5⟩, ⟨1, [], .slice ao1 u0.length cap2⟩, ⟨5, [], .slice (sm f) (List.replicate (w64 ((u1.length : Int) + 1)).toNat (0 : Int)).length (w64 ((u1.length : Int) + 1)).toNat⟩, ⟨6, [], y6 0⟩, ⟨7, [], i6 0⟩] ay := aA.reg; clear aA
  obtain ⟨cg, ch, ci, cj⟩ := ce
  refine lp (ι := Int × Int × (List Int)) (fun s => [⟨0, [], .slice ao4 u1.length cap5⟩, ⟨1, [], .slice ao1 u0.length cap2⟩, ⟨5, [], .slice (sm f) s.2.2.length (w64 ((u1.length : Int) + 1)).toNat⟩, ⟨6, [], y6 s.1⟩, ⟨7, [], i6 s.2.1⟩]) (fun s => [.own (tyInt .u32) 109 (sm f) (w64 ((u1.length : Int) + 1)).toNat s.2.2]) (fun s => Z) (fun s => cg s.1 s.2.1 s.2.2) (fun s => ch s.1 s.2.1 s.2.2) ⟨0, 0, (List.replicate (w64 ((u1.length : Int) + 1)).toNat (0 : Int))⟩ ci (by exact aB.reg) (by exact C) ?_
  rintro ⟨a, b, g⟩ cl cm cn aC aD
  have aE : Fr 58 [] [⟨0, [], .slice ao4 u1.length cap5⟩, ⟨1, [], .slice ao1 u0.length cap2⟩, ⟨5, [], .slice (sm f) g.length (w64 ((u1.length : Int) + 1)).toNat⟩, ⟨6, [], y6 a⟩, ⟨7, [], i6 b⟩] cm := aC; clear aC aB
  have j : Mem w.heap.size [] w Z [.own (tyInt .u32) 109 (sm f) (w64 ((u1.length : Int) + 1)).toNat g] Z cn := aD; clear aD C
  have D := cj a b g cl
  refine wp_seq ?_
  refine sqB aE j [] [] [(22, .bool (decide (b < (u1.length : Int))))] ?_; intro ea v; clear aE
  refine cd v (t := decide (b < (u1.length : Int))) (by kernel_rfl) (fun S => ?_) (fun S => ?_)
  ·
   have co := D.1 S; clear D
   refine wp_skip ?_
   refine thn ?_
   refine wp_seq ?_
   refine wp_block ?_
   refine sqH ?_; intro cp aF
   refine bt v j 3 [] [] [(25, y6 a), (26, .slice ao4 u1.length cap5), (27, i6 b)] ?_; intro eb aG; clear v
   obtain ⟨cq, aH⟩ := co
   refine ix aG (T := (tyInt .u32)) (xs := u1) hs6 b cq (k := .i64) (e := 109) (bytes := 4) (nog rfl _) rfl (by kernel_rfl) rfl (by kernel_rfl) (by kernel_rfl) (by kernel_rfl) ?_; intro aI aJ cr c ec cs ct cu aK; clear aG
   have E := aH c cs; clear aH
   obtain rfl : cr = ([.int .u32 c] : List Value) := cu
   refine z1 aK j 29 ct 0 (.int .u32 c) rfl ?_; intro ed aL; clear aK
   refine bt aL j 3 [] [] [(6, y6 (wu64 (a + (wu64 c))))] ?_; intro ee aM; clear aL
   refine nlH (aF _ _ ?_); clear aF cp
   refine wp_seq ?_
   refine sqB aM j [] [] [(35, .bool (decide (b < (u0.length : Int))))] ?_; intro ef x; clear aM
   refine cd x (t := decide (b < (u0.length : Int))) (by kernel_rfl) (fun U => ?_) (fun U => ?_)
   ·
    have cv := E.1 U; clear E
    refine rgH ?_; intro cw aN
    refine bt x j 3 [] [] [(36, y6 (wu64 (a + (wu64 c)))), (37, .slice ao1 u0.length cap2), (38, i6 b)] ?_; intro eg aO; clear x
    obtain ⟨cx, aP⟩ := cv
    refine ix aO (T := (tyInt .u32)) (xs := u0) hs3 b cx (k := .i64) (e := 109) (bytes := 4) (nog rfl _) rfl (by kernel_rfl) rfl (by kernel_rfl) (by kernel_rfl) (by kernel_rfl) ?_; intro cy cz cA m eh cB cC cD aQ; clear aO
    have cE := aP m cB; clear aP
    obtain rfl : cA = ([.int .u32 m] : List Value) := cD
    refine z1 aQ j 40 cC 0 (.int .u32 m) rfl ?_; intro ei aR; clear aQ
    refine bt aR j 3 [] [] [(6, y6 (wu64 ((wu64 (a + (wu64 c))) + (wu64 m))))] ?_; intro ej aS; clear aR
    refine nlH (aN _ _ ?_); clear aN cw
    refine thn ?_
    refine sqH ?_; intro cF aT
    refine bt aS j 4 [] [] [(43, .slice (sm f) g.length (w64 ((u1.length : Int) + 1)).toNat), (44, i6 b), (46, .int .u32 (wu32 (wu64 ((wu64 (a + (wu64 c))) + (wu64 m)))))] ?_; intro ek aU; clear aS
    obtain ⟨cG, aV⟩ := cE
    refine ixo aU j 0 (T := (tyInt .u32)) (xs := g) b cG (k := .i64) (e := 109) (bytes := 4) (nog rfl _) rfl (by kernel_rfl) rfl (by kernel_rfl) (by kernel_rfl) rfl (by kernel_rfl) ?_; intro cH cI cJ F; clear aU
    obtain rfl : f = cH := by simpa using cJ
    refine so F j 0 (T := (tyInt .u32)) (xs := g) b.toNat (wu32 (wu64 ((wu64 (a + (wu64 c))) + (wu64 m)))) (u := .int .u32 (wu32 (wu64 ((wu64 (a + (wu64 c))) + (wu64 m))))) (nog rfl _) rfl rfl (by kernel_rfl) rfl (by kernel_rfl) rfl (by kernel_rfl) (by first | omega | (simp only [List.length_set] at *; omega)) rfl ?_; intro cK aW; clear j
    have aX : Fr 58 [] [⟨0, [], .slice ao4 u1.length cap5⟩, ⟨1, [], .slice ao1 u0.length cap2⟩, ⟨5, [], .slice (sm f) (g.set b.toNat (wu32 (wu64 ((wu64 (a + (wu64 c))) + (wu64 m))))).length (w64 ((u1.length : Int) + 1)).toNat⟩, ⟨6, [], y6 (wu64 ((wu64 (a + (wu64 c))) + (wu64 m)))⟩, ⟨7, [], i6 b⟩, ⟨22, [], .bool (decide (b < (u1.length : Int)))⟩, ⟨25, [], y6 a⟩, ⟨26, [], .slice ao4 u1.length cap5⟩, ⟨27, [], i6 b⟩, ⟨28, [], pt aI aJ⟩, ⟨29, [], .int .u32 c⟩, ⟨35, [], .bool (decide (b < (u0.length : Int)))⟩, ⟨36, [], y6 (wu64 (a + (wu64 c)))⟩, ⟨37, [], .slice ao1 u0.length cap2⟩, ⟨38, [], i6 b⟩, ⟨39, [], pt cy cz⟩, ⟨40, [], .int .u32 m⟩, ⟨43, [], .slice (sm f) (g.set b.toNat (wu32 (wu64 ((wu64 (a + (wu64 c))) + (wu64 m))))).length (w64 ((u1.length : Int) + 1)).toNat⟩, ⟨44, [], i6 b⟩, ⟨46, [], .int .u32 (wu32 (wu64 ((wu64 (a + (wu64 c))) + (wu64 m))))⟩, ⟨47, [], .pointer (some ⟨f, b.toNat * 1, none⟩)⟩] cI := by (try simp only [List.length_set] at F); (try simp only [List.length_set]); exact F.reg
    clear F
    have V : Mem w.heap.size [] w Z [.own (tyInt .u32) 109 (sm f) (w64 ((u1.length : Int) + 1)).toNat (g.set b.toNat (wu32 (wu64 ((wu64 (a + (wu64 c))) + (wu64 m)))))] Z cK := aW; clear aW
    refine nlH (aT _ _ ?_); clear aT cF
    refine rgB aX V [] [] [(6, y6 (bShr .u64 (wu64 ((wu64 (a + (wu64 c))) + (wu64 m))) 32))] ?_; intro el aY; clear aX
    refine ibn ?_
    refine thn ?_
    refine rgB aY V [] [] [(7, i6 (w64 (b + 1)))] ?_; intro em cL; clear aY
    refine rd ?_
    exact ⟨⟨bShr .u64 (wu64 ((wu64 (a + (wu64 c))) + (wu64 m))) 32, w64 (b + 1), g.set b.toNat (wu32 (wu64 ((wu64 (a + (wu64 c))) + (wu64 m))))⟩, aV.1, aV.2, (cL.reg).anyβ _ (by kernel_rfl), V.keep (List.Sublist.cons_cons _ (List.Sublist.slnil))⟩
   have cM := E.2 U; clear E
   refine wp_skip ?_
   refine thn ?_
   refine sqH ?_; intro cN aZ
   refine bt x j 4 [] [] [(43, .slice (sm f) g.length (w64 ((u1.length : Int) + 1)).toNat), (44, i6 b), (46, .int .u32 (wu32 (wu64 (a + (wu64 c)))))] ?_; intro en a1; clear x
   obtain ⟨cO, a2⟩ := cM
   refine ixo a1 j 0 (T := (tyInt .u32)) (xs := g) b cO (k := .i64) (e := 109) (bytes := 4) (nog rfl _) rfl (by kernel_rfl) rfl (by kernel_rfl) (by kernel_rfl) rfl (by kernel_rfl) ?_; intro cP cQ cR G; clear a1
   obtain rfl : f = cP := by simpa using cR
   refine so G j 0 (T := (tyInt .u32)) (xs := g) b.toNat (wu32 (wu64 (a + (wu64 c)))) (u := .int .u32 (wu32 (wu64 (a + (wu64 c))))) (nog rfl _) rfl rfl (by kernel_rfl) rfl (by kernel_rfl) rfl (by kernel_rfl) (by first | omega | (simp only [List.length_set] at *; omega)) rfl ?_; intro cS a3; clear j
   have a4 : Fr 58 [] [⟨0, [], .slice ao4 u1.length cap5⟩, ⟨1, [], .slice ao1 u0.length cap2⟩, ⟨5, [], .slice (sm f) (g.set b.toNat (wu32 (wu64 (a + (wu64 c))))).length (w64 ((u1.length : Int) + 1)).toNat⟩, ⟨6, [], y6 (wu64 (a + (wu64 c)))⟩, ⟨7, [], i6 b⟩, ⟨22, [], .bool (decide (b < (u1.length : Int)))⟩, ⟨25, [], y6 a⟩, ⟨26, [], .slice ao4 u1.length cap5⟩, ⟨27, [], i6 b⟩, ⟨28, [], pt aI aJ⟩, ⟨29, [], .int .u32 c⟩, ⟨35, [], .bool (decide (b < (u0.length : Int)))⟩, ⟨43, [], .slice (sm f) (g.set b.toNat (wu32 (wu64 (a + (wu64 c))))).length (w64 ((u1.length : Int) + 1)).toNat⟩, ⟨44, [], i6 b⟩, ⟨46, [], .int .u32 (wu32 (wu64 (a + (wu64 c))))⟩, ⟨47, [], .pointer (some ⟨f, b.toNat * 1, none⟩)⟩] cQ := by (try simp only [List.length_set] at G); (try simp only [List.length_set]); exact G.reg
   clear G
   have W : Mem w.heap.size [] w Z [.own (tyInt .u32) 109 (sm f) (w64 ((u1.length : Int) + 1)).toNat (g.set b.toNat (wu32 (wu64 (a + (wu64 c)))))] Z cS := a3; clear a3
   refine nlH (aZ _ _ ?_); clear aZ cN
   refine rgB a4 W [] [] [(6, y6 (bShr .u64 (wu64 (a + (wu64 c))) 32))] ?_; intro eo a5; clear a4
   refine ibn ?_
   refine thn ?_
   refine rgB a5 W [] [] [(7, i6 (w64 (b + 1)))] ?_; intro ep cT; clear a5
   refine rd ?_
   exact ⟨⟨bShr .u64 (wu64 (a + (wu64 c))) 32, w64 (b + 1), g.set b.toNat (wu32 (wu64 (a + (wu64 c))))⟩, a2.1, a2.2, (cT.reg).anyβ _ (by kernel_rfl), W.keep (List.Sublist.cons_cons _ (List.Sublist.slnil))⟩
  have cU := D.2 S; clear D
  refine wp_exit ?_
  refine thx ?_
  refine thx ?_
  refine ibx ?_
  refine thn ?_
  refine sqH ?_; intro cV a6
  refine bt v j 5 [] [] [(50, .slice (sm f) g.length (w64 ((u1.length : Int) + 1)).toNat), (52, i6 (u1.length : Int)), (54, .int .u32 (wu32 a))] ?_; intro eq a7; clear v
  obtain ⟨cW, a8⟩ := cU
  refine ixo a7 j 0 (T := (tyInt .u32)) (xs := g) (u1.length : Int) cW (k := .i64) (e := 109) (bytes := 4) (nog rfl _) rfl (by kernel_rfl) rfl (by kernel_rfl) (by kernel_rfl) rfl (by kernel_rfl) ?_; intro cX cY cZ H; clear a7
  obtain rfl : f = cX := by simpa using cZ
  refine so H j 0 (T := (tyInt .u32)) (xs := g) (u1.length : Int).toNat (wu32 a) (u := .int .u32 (wu32 a)) (nog rfl _) rfl rfl (by kernel_rfl) rfl (by kernel_rfl) rfl (by kernel_rfl) (by first | omega | (simp only [List.length_set] at *; omega)) rfl ?_; intro a9 ba; clear j
  have bb : Fr 58 [] [⟨0, [], .slice ao4 u1.length cap5⟩, ⟨1, [], .slice ao1 u0.length cap2⟩, ⟨5, [], .slice (sm f) (g.set (u1.length : Int).toNat (wu32 a)).length (w64 ((u1.length : Int) + 1)).toNat⟩, ⟨6, [], y6 a⟩, ⟨7, [], i6 b⟩, ⟨22, [], .bool (decide (b < (u1.length : Int)))⟩, ⟨50, [], .slice (sm f) (g.set (u1.length : Int).toNat (wu32 a)).length (w64 ((u1.length : Int) + 1)).toNat⟩, ⟨52, [], i6 (u1.length : Int)⟩, ⟨54, [], .int .u32 (wu32 a)⟩, ⟨55, [], .pointer (some ⟨f, (u1.length : Int).toNat * 1, none⟩)⟩] cY := by (try simp only [List.length_set] at H); (try simp only [List.length_set]); exact H.reg
  clear H
  have c0 : Mem w.heap.size [] w Z [.own (tyInt .u32) 109 (sm f) (w64 ((u1.length : Int) + 1)).toNat (g.set (u1.length : Int).toNat (wu32 a))] Z a9 := ba; clear ba
  refine nlH (a6 _ _ ?_); clear a6 cV
  refine sqH ?_; intro c1 bc
  refine s1 bb 56 (.slice (sm f) (g.set (u1.length : Int).toNat (wu32 a)).length (w64 ((u1.length : Int) + 1)).toNat) ?_; intro er bd; clear bb
  obtain ⟨c2, X, be, Y⟩ := c0.freeze 0 rfl
  replace hs3 := hs3.mono X
  replace hs6 := hs6.mono X
  replace p := Fz.le.trans p X
  have aa : Mem w.heap.size [] w Z [] c2 a9 := be; clear be
  refine ck bd 111 #[.slice (sm f) (g.set (u1.length : Int).toNat (wu32 a)).length (w64 ((u1.length : Int) + 1)).toNat] ?_
  refine (gtrim_fun (g.set (u1.length : Int).toNat (wu32 a)) (sm f) (w64 ((u1.length : Int) + 1)).toNat _ _ Y aa.fz).mono ?_; rintro _ c3 ⟨ab, ac, bf, rfl, bg, hm⟩; refine ⟨_, rfl, ?_⟩; intro es bh; have bi := aa.callZ hm; have I := hm.ext.le; clear hm aa bd
  replace hs3 := hs3.mono I
  replace hs6 := hs6.mono I
  replace Y := Y.mono I
  replace p := Fz.le.trans p I
  have c4 : Mem w.heap.size [] w Z [] bf c3 := bi; clear bi
  have c5 := a8 (bg.small); clear a8
  refine s1 bh 4 (.slice ab (gtrimS (g.set (u1.length : Int).toNat (wu32 a))).length ac) ?_; intro et c6; clear bh
  refine nlH (bc _ _ ?_); clear bc c1
  refine wp_ret ?_
  refine ra1 c6 (.slice ab (gtrimS (g.set (u1.length : Int).toNat (wu32 a))).length ac) ?_
  exact ⟨(gtrimS (g.set (u1.length : Int).toNat (wu32 a))), ab, ac, bf, rfl, c5, bg, c4.keep (List.Sublist.slnil)⟩
 have c7 := B.2 R; clear B
 refine wp_skip ?_
 refine thn ?_
 refine sqH ?_; intro c8 bj
 refine bt q o 3 [] [] [(17, i6 (w64 ((u0.length : Int) + 1)))] ?_; intro eu bk; clear q
 obtain ⟨ev, c9⟩ := c7
 refine mks bk o (T := (tyInt .u32)) (w64 ((u0.length : Int) + 1)) (w64 ((u0.length : Int) + 1)) (k := .i64) (k' := .i64) (e := 109) (bytes := 4) (zs := [.int .u32 0]) (z := 0) (by simp only [lim]; omega) (nog rfl _) rfl (by kernel_rfl) rfl (by kernel_rfl) (by kernel_rfl) (by kernel_rfl) (by kernel_rfl) rfl ?_; intro h ew da bl bm; clear bk o
 have J : Mem w.heap.size [] w Z [.own (tyInt .u32) 109 (sm h) (w64 ((u0.length : Int) + 1)).toNat (List.replicate (w64 ((u0.length : Int) + 1)).toNat (0 : Int))] Z da := bm; clear bm
 refine s1 bl 5 (.slice (sm h) (List.replicate (w64 ((u0.length : Int) + 1)).toNat (0 : Int)).length (w64 ((u0.length : Int) + 1)).toNat) ?_; intro ex bn; clear bl
 refine nlH (bj _ _ ?_); clear bj c8
 refine sqB bn J [] [] [(6, y6 0)] ?_; intro ey bo; clear bn
 refine wp_seq ?_
 refine sqB bo J [] [] [(7, i6 0)] ?_; intro bp bq; clear bo
 refine wp_block ?_
 have br : Fr 58 [] [⟨0, [], .slice ao1 u0.length cap2⟩, ⟨1, [], .slice ao4 u1.length cap5⟩, ⟨5, [], .slice (sm h) (List.replicate (w64 ((u0.length : Int) + 1)).toNat (0 : Int)).length (w64 ((u0.length : Int) + 1)).toNat⟩, ⟨6, [], y6 0⟩, ⟨7, [], i6 0⟩] bp := bq.reg; clear bq
 have bs : Fr 58 [] [⟨0, [], .slice ao1 u0.length cap2⟩, ⟨1, [], .slice ao4 u1.length cap5⟩, ⟨5, [], .slice (sm h) (List.replicate (w64 ((u0.length : Int) + 1)).toNat (0 : Int)).length (w64 ((u0.length : Int) + 1)).toNat⟩, ⟨6, [], y6 0⟩, ⟨7, [], i6 0⟩] bp := br.reg; clear br
 obtain ⟨db, dc, dd, de⟩ := c9
 refine lp (ι := Int × Int × (List Int)) (fun s => [⟨0, [], .slice ao1 u0.length cap2⟩, ⟨1, [], .slice ao4 u1.length cap5⟩, ⟨5, [], .slice (sm h) s.2.2.length (w64 ((u0.length : Int) + 1)).toNat⟩, ⟨6, [], y6 s.1⟩, ⟨7, [], i6 s.2.1⟩]) (fun s => [.own (tyInt .u32) 109 (sm h) (w64 ((u0.length : Int) + 1)).toNat s.2.2]) (fun s => Z) (fun s => db s.1 s.2.1 s.2.2) (fun s => dc s.1 s.2.1 s.2.2) ⟨0, 0, (List.replicate (w64 ((u0.length : Int) + 1)).toNat (0 : Int))⟩ dd (by exact bs.reg) (by exact J) ?_
 rintro ⟨a, b, i⟩ df dg dh bu bv
 have bw : Fr 58 [] [⟨0, [], .slice ao1 u0.length cap2⟩, ⟨1, [], .slice ao4 u1.length cap5⟩, ⟨5, [], .slice (sm h) i.length (w64 ((u0.length : Int) + 1)).toNat⟩, ⟨6, [], y6 a⟩, ⟨7, [], i6 b⟩] dg := bu; clear bu bs
 have l : Mem w.heap.size [] w Z [.own (tyInt .u32) 109 (sm h) (w64 ((u0.length : Int) + 1)).toNat i] Z dh := bv; clear bv J
 have L := de a b i df
 refine wp_seq ?_
 refine sqB bw l [] [] [(22, .bool (decide (b < (u0.length : Int))))] ?_; intro ez y; clear bw
 refine cd y (t := decide (b < (u0.length : Int))) (by kernel_rfl) (fun ad => ?_) (fun ad => ?_)
 ·
  have di := L.1 ad; clear L
  refine wp_skip ?_
  refine thn ?_
  refine wp_seq ?_
  refine wp_block ?_
  refine sqH ?_; intro dj bx
  refine bt y l 3 [] [] [(25, y6 a), (26, .slice ao1 u0.length cap2), (27, i6 b)] ?_; intro eA bz; clear y
  obtain ⟨dk, bA⟩ := di
  refine ix bz (T := (tyInt .u32)) (xs := u0) hs3 b dk (k := .i64) (e := 109) (bytes := 4) (nog rfl _) rfl (by kernel_rfl) rfl (by kernel_rfl) (by kernel_rfl) (by kernel_rfl) ?_; intro bB bC dl d eB dm dn dp bD; clear bz
  have M := bA d dm; clear bA
  obtain rfl : dl = ([.int .u32 d] : List Value) := dp
  refine z1 bD l 29 dn 0 (.int .u32 d) rfl ?_; intro eC bE; clear bD
  refine bt bE l 3 [] [] [(6, y6 (wu64 (a + (wu64 d))))] ?_; intro eD bF; clear bE
  refine nlH (bx _ _ ?_); clear bx dj
  refine wp_seq ?_
  refine sqB bF l [] [] [(35, .bool (decide (b < (u1.length : Int))))] ?_; intro eE A; clear bF
  refine cd A (t := decide (b < (u1.length : Int))) (by kernel_rfl) (fun ae => ?_) (fun ae => ?_)
  ·
   have dq := M.1 ae; clear M
   refine rgH ?_; intro dr bG
   refine bt A l 3 [] [] [(36, y6 (wu64 (a + (wu64 d)))), (37, .slice ao4 u1.length cap5), (38, i6 b)] ?_; intro eF bH; clear A
   obtain ⟨ds, bI⟩ := dq
   refine ix bH (T := (tyInt .u32)) (xs := u1) hs6 b ds (k := .i64) (e := 109) (bytes := 4) (nog rfl _) rfl (by kernel_rfl) rfl (by kernel_rfl) (by kernel_rfl) (by kernel_rfl) ?_; intro dt du dv n eG dw dx dy bJ; clear bH
   have dz := bI n dw; clear bI
   obtain rfl : dv = ([.int .u32 n] : List Value) := dy
   refine z1 bJ l 40 dx 0 (.int .u32 n) rfl ?_; intro eH bK; clear bJ
   refine bt bK l 3 [] [] [(6, y6 (wu64 ((wu64 (a + (wu64 d))) + (wu64 n))))] ?_; intro eI bL; clear bK
   refine nlH (bG _ _ ?_); clear bG dr
   refine thn ?_
   refine sqH ?_; intro dA bM
   refine bt bL l 4 [] [] [(43, .slice (sm h) i.length (w64 ((u0.length : Int) + 1)).toNat), (44, i6 b), (46, .int .u32 (wu32 (wu64 ((wu64 (a + (wu64 d))) + (wu64 n)))))] ?_; intro eJ bN; clear bL
   obtain ⟨dB, bO⟩ := dz
   refine ixo bN l 0 (T := (tyInt .u32)) (xs := i) b dB (k := .i64) (e := 109) (bytes := 4) (nog rfl _) rfl (by kernel_rfl) rfl (by kernel_rfl) (by kernel_rfl) rfl (by kernel_rfl) ?_; intro dC dD dE N; clear bN
   obtain rfl : h = dC := by simpa using dE
   refine so N l 0 (T := (tyInt .u32)) (xs := i) b.toNat (wu32 (wu64 ((wu64 (a + (wu64 d))) + (wu64 n)))) (u := .int .u32 (wu32 (wu64 ((wu64 (a + (wu64 d))) + (wu64 n))))) (nog rfl _) rfl rfl (by kernel_rfl) rfl (by kernel_rfl) rfl (by kernel_rfl) (by first | omega | (simp only [List.length_set] at *; omega)) rfl ?_; intro dF bP; clear l
   have bQ : Fr 58 [] [⟨0, [], .slice ao1 u0.length cap2⟩, ⟨1, [], .slice ao4 u1.length cap5⟩, ⟨5, [], .slice (sm h) (i.set b.toNat (wu32 (wu64 ((wu64 (a + (wu64 d))) + (wu64 n))))).length (w64 ((u0.length : Int) + 1)).toNat⟩, ⟨6, [], y6 (wu64 ((wu64 (a + (wu64 d))) + (wu64 n)))⟩, ⟨7, [], i6 b⟩, ⟨22, [], .bool (decide (b < (u0.length : Int)))⟩, ⟨25, [], y6 a⟩, ⟨26, [], .slice ao1 u0.length cap2⟩, ⟨27, [], i6 b⟩, ⟨28, [], pt bB bC⟩, ⟨29, [], .int .u32 d⟩, ⟨35, [], .bool (decide (b < (u1.length : Int)))⟩, ⟨36, [], y6 (wu64 (a + (wu64 d)))⟩, ⟨37, [], .slice ao4 u1.length cap5⟩, ⟨38, [], i6 b⟩, ⟨39, [], pt dt du⟩, ⟨40, [], .int .u32 n⟩, ⟨43, [], .slice (sm h) (i.set b.toNat (wu32 (wu64 ((wu64 (a + (wu64 d))) + (wu64 n))))).length (w64 ((u0.length : Int) + 1)).toNat⟩, ⟨44, [], i6 b⟩, ⟨46, [], .int .u32 (wu32 (wu64 ((wu64 (a + (wu64 d))) + (wu64 n))))⟩, ⟨47, [], .pointer (some ⟨h, b.toNat * 1, none⟩)⟩] dD := by (try simp only [List.length_set] at N); (try simp only [List.length_set]); exact N.reg
   clear N
   have af : Mem w.heap.size [] w Z [.own (tyInt .u32) 109 (sm h) (w64 ((u0.length : Int) + 1)).toNat (i.set b.toNat (wu32 (wu64 ((wu64 (a + (wu64 d))) + (wu64 n)))))] Z dF := bP; clear bP
   refine nlH (bM _ _ ?_); clear bM dA
   refine rgB bQ af [] [] [(6, y6 (bShr .u64 (wu64 ((wu64 (a + (wu64 d))) + (wu64 n))) 32))] ?_; intro eK bR; clear bQ
   refine ibn ?_
   refine thn ?_
   refine rgB bR af [] [] [(7, i6 (w64 (b + 1)))] ?_; intro eL dG; clear bR
   refine rd ?_
   exact ⟨⟨bShr .u64 (wu64 ((wu64 (a + (wu64 d))) + (wu64 n))) 32, w64 (b + 1), i.set b.toNat (wu32 (wu64 ((wu64 (a + (wu64 d))) + (wu64 n))))⟩, bO.1, bO.2, (dG.reg).anyβ _ (by kernel_rfl), af.keep (List.Sublist.cons_cons _ (List.Sublist.slnil))⟩
  have dH := M.2 ae; clear M
  refine wp_skip ?_
  refine thn ?_
  refine sqH ?_; intro dI bS
  refine bt A l 4 [] [] [(43, .slice (sm h) i.length (w64 ((u0.length : Int) + 1)).toNat), (44, i6 b), (46, .int .u32 (wu32 (wu64 (a + (wu64 d)))))] ?_; intro eM bT; clear A
  obtain ⟨dJ, bU⟩ := dH
  refine ixo bT l 0 (T := (tyInt .u32)) (xs := i) b dJ (k := .i64) (e := 109) (bytes := 4) (nog rfl _) rfl (by kernel_rfl) rfl (by kernel_rfl) (by kernel_rfl) rfl (by kernel_rfl) ?_; intro dK dL dM O; clear bT
  obtain rfl : h = dK := by simpa using dM
  refine so O l 0 (T := (tyInt .u32)) (xs := i) b.toNat (wu32 (wu64 (a + (wu64 d)))) (u := .int .u32 (wu32 (wu64 (a + (wu64 d))))) (nog rfl _) rfl rfl (by kernel_rfl) rfl (by kernel_rfl) rfl (by kernel_rfl) (by first | omega | (simp only [List.length_set] at *; omega)) rfl ?_; intro dN bV; clear l
  have bW : Fr 58 [] [⟨0, [], .slice ao1 u0.length cap2⟩, ⟨1, [], .slice ao4 u1.length cap5⟩, ⟨5, [], .slice (sm h) (i.set b.toNat (wu32 (wu64 (a + (wu64 d))))).length (w64 ((u0.length : Int) + 1)).toNat⟩, ⟨6, [], y6 (wu64 (a + (wu64 d)))⟩, ⟨7, [], i6 b⟩, ⟨22, [], .bool (decide (b < (u0.length : Int)))⟩, ⟨25, [], y6 a⟩, ⟨26, [], .slice ao1 u0.length cap2⟩, ⟨27, [], i6 b⟩, ⟨28, [], pt bB bC⟩, ⟨29, [], .int .u32 d⟩, ⟨35, [], .bool (decide (b < (u1.length : Int)))⟩, ⟨43, [], .slice (sm h) (i.set b.toNat (wu32 (wu64 (a + (wu64 d))))).length (w64 ((u0.length : Int) + 1)).toNat⟩, ⟨44, [], i6 b⟩, ⟨46, [], .int .u32 (wu32 (wu64 (a + (wu64 d))))⟩, ⟨47, [], .pointer (some ⟨h, b.toNat * 1, none⟩)⟩] dL := by (try simp only [List.length_set] at O); (try simp only [List.length_set]); exact O.reg
  clear O
  have ag : Mem w.heap.size [] w Z [.own (tyInt .u32) 109 (sm h) (w64 ((u0.length : Int) + 1)).toNat (i.set b.toNat (wu32 (wu64 (a + (wu64 d)))))] Z dN := bV; clear bV
  refine nlH (bS _ _ ?_); clear bS dI
  refine rgB bW ag [] [] [(6, y6 (bShr .u64 (wu64 (a + (wu64 d))) 32))] ?_; intro eN bX; clear bW
  refine ibn ?_
  refine thn ?_
  refine rgB bX ag [] [] [(7, i6 (w64 (b + 1)))] ?_; intro eO dO; clear bX
  refine rd ?_
  exact ⟨⟨bShr .u64 (wu64 (a + (wu64 d))) 32, w64 (b + 1), i.set b.toNat (wu32 (wu64 (a + (wu64 d))))⟩, bU.1, bU.2, (dO.reg).anyβ _ (by kernel_rfl), ag.keep (List.Sublist.cons_cons _ (List.Sublist.slnil))⟩
 have dP := L.2 ad; clear L
 refine wp_exit ?_
 refine thx ?_
 refine thx ?_
 refine ibx ?_
 refine thn ?_
 refine sqH ?_; intro dQ bY
 refine bt y l 5 [] [] [(50, .slice (sm h) i.length (w64 ((u0.length : Int) + 1)).toNat), (52, i6 (u0.length : Int)), (54, .int .u32 (wu32 a))] ?_; intro eP bZ; clear y
 obtain ⟨dR, b0⟩ := dP
 refine ixo bZ l 0 (T := (tyInt .u32)) (xs := i) (u0.length : Int) dR (k := .i64) (e := 109) (bytes := 4) (nog rfl _) rfl (by kernel_rfl) rfl (by kernel_rfl) (by kernel_rfl) rfl (by kernel_rfl) ?_; intro dS dT dU P; clear bZ
 obtain rfl : h = dS := by simpa using dU
 refine so P l 0 (T := (tyInt .u32)) (xs := i) (u0.length : Int).toNat (wu32 a) (u := .int .u32 (wu32 a)) (nog rfl _) rfl rfl (by kernel_rfl) rfl (by kernel_rfl) rfl (by kernel_rfl) (by first | omega | (simp only [List.length_set] at *; omega)) rfl ?_; intro b1 b2; clear l
 have b3 : Fr 58 [] [⟨0, [], .slice ao1 u0.length cap2⟩, ⟨1, [], .slice ao4 u1.length cap5⟩, ⟨5, [], .slice (sm h) (i.set (u0.length : Int).toNat (wu32 a)).length (w64 ((u0.length : Int) + 1)).toNat⟩, ⟨6, [], y6 a⟩, ⟨7, [], i6 b⟩, ⟨22, [], .bool (decide (b < (u0.length : Int)))⟩, ⟨50, [], .slice (sm h) (i.set (u0.length : Int).toNat (wu32 a)).length (w64 ((u0.length : Int) + 1)).toNat⟩, ⟨52, [], i6 (u0.length : Int)⟩, ⟨54, [], .int .u32 (wu32 a)⟩, ⟨55, [], .pointer (some ⟨h, (u0.length : Int).toNat * 1, none⟩)⟩] dT := by (try simp only [List.length_set] at P); (try simp only [List.length_set]); exact P.reg
 clear P
 have dV : Mem w.heap.size [] w Z [.own (tyInt .u32) 109 (sm h) (w64 ((u0.length : Int) + 1)).toNat (i.set (u0.length : Int).toNat (wu32 a))] Z b1 := b2; clear b2
 refine nlH (bY _ _ ?_); clear bY dQ
 refine sqH ?_; intro dW b4
 refine s1 b3 56 (.slice (sm h) (i.set (u0.length : Int).toNat (wu32 a)).length (w64 ((u0.length : Int) + 1)).toNat) ?_; intro eQ b5; clear b3
 obtain ⟨dX, ah, b6, ai⟩ := dV.freeze 0 rfl
 replace hs3 := hs3.mono ah
 replace hs6 := hs6.mono ah
 replace p := Fz.le.trans p ah
 have aj : Mem w.heap.size [] w Z [] dX b1 := b6; clear b6
 refine ck b5 111 #[.slice (sm h) (i.set (u0.length : Int).toNat (wu32 a)).length (w64 ((u0.length : Int) + 1)).toNat] ?_
 refine (gtrim_fun (i.set (u0.length : Int).toNat (wu32 a)) (sm h) (w64 ((u0.length : Int) + 1)).toNat _ _ ai aj.fz).mono ?_; rintro _ dY ⟨ak, al, b7, rfl, b8, hm⟩; refine ⟨_, rfl, ?_⟩; intro eR b9; have ca := aj.callZ hm; have Q := hm.ext.le; clear hm aj b5
 replace hs3 := hs3.mono Q
 replace hs6 := hs6.mono Q
 replace ai := ai.mono Q
 replace p := Fz.le.trans p Q
 have dZ : Mem w.heap.size [] w Z [] b7 dY := ca; clear ca
 have d0 := b0 (b8.small); clear b0
 refine s1 b9 4 (.slice ak (gtrimS (i.set (u0.length : Int).toNat (wu32 a))).length al) ?_; intro eS d1; clear b9
 refine nlH (b4 _ _ ?_); clear b4 dW
 refine wp_ret ?_
 refine ra1 d1 (.slice ak (gtrimS (i.set (u0.length : Int).toNat (wu32 a))).length al) ?_
 exact ⟨(gtrimS (i.set (u0.length : Int).toNat (wu32 a))), ak, al, b7, rfl, d0, b8, dZ.keep (List.Sublist.slnil)⟩

theorem gsub_walk (u0 : List Int) (u1 : List Int) (ao1 : Option Addr) (cap2 : Nat) (ao4 : Option Addr) (cap5 : Nat) (Z : Fz) (w : World) (hs3 : SlR (tyInt .u32) Z ao1 cap2 u0) (hs6 : SlR (tyInt .u32) Z ao4 cap5 u1) (hZ : Z.on w) {K : (List Int) → Prop} (hp : gsub_vc u0 u1 K) : Calls Tryd.prog 87 #[.slice ao1 u0.length cap2, .slice ao4 u1.length cap5] w fun e w' => ∃ (r : (List Int)) (ao1001 : Option Addr) (cap1002 : Nat) (Z' : Fz), e = .returned (.slice ao1001 r.length cap1002) ∧ K r ∧ SlR (tyInt .u32) Z' ao1001 cap1002 r ∧ Mem w.heap.size [] w Z [] Z' w' := by
 refine enter0 Tryd.func87 rfl rfl (by kernel_rfl) ?_; intro a0 I; have l := Mem.start w Z hZ; have m := Fz.le.refl Z
 have J := hp (hs3.small); clear hp
 have aM := J (hs6.small); clear J
 refine sqB I l [] [] [] ?_; intro bB L; clear I
 refine sqH ?_; intro aN M
 refine bt L l 2 [] [] [(10, i6 (u0.length : Int))] ?_; intro bC N; clear L
 obtain ⟨bD, aO⟩ := aM
 refine mks N l (T := (tyInt .u32)) (u0.length : Int) (u0.length : Int) (k := .i64) (k' := .i64) (e := 109) (bytes := 4) (zs := [.int .u32 0]) (z := 0) (by simp only [lim]; omega) (nog rfl _) rfl (by kernel_rfl) rfl (by kernel_rfl) (by kernel_rfl) (by kernel_rfl) (by kernel_rfl) rfl ?_; intro d bE aP O P; clear N l
 have n : Mem w.heap.size [] w Z [.own (tyInt .u32) 109 (sm d) (u0.length : Int).toNat (List.replicate (u0.length : Int).toNat (0 : Int))] Z aP := P; clear P
 refine s1 O 5 (.slice (sm d) (List.replicate (u0.length : Int).toNat (0 : Int)).length (u0.length : Int).toNat) ?_; intro bF Q; clear O
 refine nlH (M _ _ ?_); clear M aN
 refine sqB Q n [] [] [(6, y6 0)] ?_; intro bG R; clear Q
 refine wp_seq ?_
 refine sqB R n [] [] [(7, i6 0)] ?_; intro S U; clear R
 refine wp_block ?_
 have V : Fr 45 [] [⟨0, [], .slice ao1 u0.length cap2⟩, ⟨1, [], .slice ao4 u1.length cap5⟩, ⟨5, [], .slice (sm d) (List.replicate (u0.length : Int).toNat (0 : Int)).length (u0.length : Int).toNat⟩, ⟨6, [], y6 0⟩, ⟨7, [], i6 0⟩] S := U.reg; clear U
 have W : Fr 45 [] [⟨0, [], .slice ao1 u0.length cap2⟩, ⟨1, [], .slice ao4 u1.length cap5⟩, ⟨5, [], .slice (sm d) (List.replicate (u0.length : Int).toNat (0 : Int)).length (u0.length : Int).toNat⟩, ⟨6, [], y6 0⟩, ⟨7, [], i6 0⟩] S := V.reg; clear V
 obtain ⟨aQ, aR, aS, aT⟩ := aO
 refine lp (ι := Int × Int × (List Int)) (fun s => [⟨0, [], .slice ao1 u0.length cap2⟩, ⟨1, [], .slice ao4 u1.length cap5⟩, ⟨5, [], .slice (sm d) s.2.2.length (u0.length : Int).toNat⟩, ⟨6, [], y6 s.1⟩, ⟨7, [], i6 s.2.1⟩]) (fun s => [.own (tyInt .u32) 109 (sm d) (u0.length : Int).toNat s.2.2]) (fun s => Z) (fun s => aQ s.1 s.2.1 s.2.2) (fun s => aR s.1 s.2.1 s.2.2) ⟨0, 0, (List.replicate (u0.length : Int).toNat (0 : Int))⟩ aS (by exact W.reg) (by exact n) ?_
 rintro ⟨c, a, f⟩ aU aV X Y aa
 have ab : Fr 45 [] [⟨0, [], .slice ao1 u0.length cap2⟩, ⟨1, [], .slice ao4 u1.length cap5⟩, ⟨5, [], .slice (sm d) f.length (u0.length : Int).toNat⟩, ⟨6, [], y6 c⟩, ⟨7, [], i6 a⟩] aV := Y; clear Y W
 have g : Mem w.heap.size [] w Z [.own (tyInt .u32) 109 (sm d) (u0.length : Int).toNat f] Z X := aa; clear aa n
 have o := aT c a f aU
 refine wp_seq ?_
 refine sqB ab g [] [] [(15, .bool (decide (a < (u0.length : Int))))] ?_; intro bH i; clear ab
 refine cd i (t := decide (a < (u0.length : Int))) (by kernel_rfl) (fun y => ?_) (fun y => ?_)
 ·
  have aW := o.1 y; clear o
  refine wp_skip ?_
  refine thn ?_
  refine wp_seq ?_
  refine wp_block ?_
  refine sqH ?_; intro aX ac
  refine bt i g 2 [] [] [(18, .slice ao1 u0.length cap2), (19, i6 a)] ?_; intro bI ad; clear i
  obtain ⟨aY, ae⟩ := aW
  refine ix ad (T := (tyInt .u32)) (xs := u0) hs3 a aY (k := .i64) (e := 109) (bytes := 4) (nog rfl _) rfl (by kernel_rfl) rfl (by kernel_rfl) (by kernel_rfl) (by kernel_rfl) ?_; intro af ag aZ b bJ a1 a2 a3 ah; clear ad
  have p := ae b a1; clear ae
  obtain rfl : aZ = ([.int .u32 b] : List Value) := a3
  refine z1 ah g 21 a2 0 (.int .u32 b) rfl ?_; intro bK ai; clear ah
  refine bt ai g 4 [] [] [(8, y6 (wu64 ((wu64 b) - c)))] ?_; intro bL aj; clear ai
  refine nlH (ac _ _ ?_); clear ac aX
  refine wp_seq ?_
  refine sqB aj g [] [] [(28, .bool (decide (a < (u1.length : Int))))] ?_; intro bM j; clear aj
  refine cd j (t := decide (a < (u1.length : Int))) (by kernel_rfl) (fun A => ?_) (fun A => ?_)
  ·
   have a4 := p.1 A; clear p
   refine rgH ?_; intro a5 ak
   refine bt j g 3 [] [] [(29, y6 (wu64 ((wu64 b) - c))), (30, .slice ao4 u1.length cap5), (31, i6 a)] ?_; intro bN al; clear j
   obtain ⟨a6, am⟩ := a4
   refine ix al (T := (tyInt .u32)) (xs := u1) hs6 a a6 (k := .i64) (e := 109) (bytes := 4) (nog rfl _) rfl (by kernel_rfl) rfl (by kernel_rfl) (by kernel_rfl) (by kernel_rfl) ?_; intro a7 a8 a9 h bO ba bb bc an; clear al
   have bd := am h ba; clear am
   obtain rfl : a9 = ([.int .u32 h] : List Value) := bc
   refine z1 an g 33 bb 0 (.int .u32 h) rfl ?_; intro bP ao; clear an
   refine bt ao g 3 [] [] [(8, y6 (wu64 ((wu64 ((wu64 b) - c)) - (wu64 h))))] ?_; intro bQ ap; clear ao
   refine nlH (ak _ _ ?_); clear ak a5
   refine thn ?_
   refine sqH ?_; intro be aq
   refine bt ap g 4 [] [] [(36, .slice (sm d) f.length (u0.length : Int).toNat), (37, i6 a), (39, .int .u32 (wu32 (wu64 ((wu64 ((wu64 b) - c)) - (wu64 h)))))] ?_; intro bR ar; clear ap
   obtain ⟨bf, au⟩ := bd
   refine ixo ar g 0 (T := (tyInt .u32)) (xs := f) a bf (k := .i64) (e := 109) (bytes := 4) (nog rfl _) rfl (by kernel_rfl) rfl (by kernel_rfl) (by kernel_rfl) rfl (by kernel_rfl) ?_; intro bg bh bi q; clear ar
   obtain rfl : d = bg := by simpa using bi
   refine so q g 0 (T := (tyInt .u32)) (xs := f) a.toNat (wu32 (wu64 ((wu64 ((wu64 b) - c)) - (wu64 h)))) (u := .int .u32 (wu32 (wu64 ((wu64 ((wu64 b) - c)) - (wu64 h))))) (nog rfl _) rfl rfl (by kernel_rfl) rfl (by kernel_rfl) rfl (by kernel_rfl) (by first | omega | (simp only [List.length_set] at *; omega)) rfl ?_; intro bj av; clear g
   have aw : Fr 45 [] [⟨0, [], .slice ao1 u0.length cap2⟩, ⟨1, [], .slice ao4 u1.length cap5⟩, ⟨5, [], .slice (sm d) (f.set a.toNat (wu32 (wu64 ((wu64 ((wu64 b) - c)) - (wu64 h))))).length (u0.length : Int).toNat⟩, ⟨6, [], y6 c⟩, ⟨7, [], i6 a⟩, ⟨8, [], y6 (wu64 ((wu64 ((wu64 b) - c)) - (wu64 h)))⟩, ⟨15, [], .bool (decide (a < (u0.length : Int)))⟩, ⟨18, [], .slice ao1 u0.length cap2⟩, ⟨19, [], i6 a⟩, ⟨20, [], pt af ag⟩, ⟨21, [], .int .u32 b⟩, ⟨28, [], .bool (decide (a < (u1.length : Int)))⟩, ⟨29, [], y6 (wu64 ((wu64 b) - c))⟩, ⟨30, [], .slice ao4 u1.length cap5⟩, ⟨31, [], i6 a⟩, ⟨32, [], pt a7 a8⟩, ⟨33, [], .int .u32 h⟩, ⟨36, [], .slice (sm d) (f.set a.toNat (wu32 (wu64 ((wu64 ((wu64 b) - c)) - (wu64 h))))).length (u0.length : Int).toNat⟩, ⟨37, [], i6 a⟩, ⟨39, [], .int .u32 (wu32 (wu64 ((wu64 ((wu64 b) - c)) - (wu64 h))))⟩, ⟨40, [], .pointer (some ⟨d, a.toNat * 1, none⟩)⟩] bh := by (try simp only [List.length_set] at q); (try simp only [List.length_set]); exact q.reg
   clear q
   have B : Mem w.heap.size [] w Z [.own (tyInt .u32) 109 (sm d) (u0.length : Int).toNat (f.set a.toNat (wu32 (wu64 ((wu64 ((wu64 b) - c)) - (wu64 h)))))] Z bj := av; clear av
   refine nlH (aq _ _ ?_); clear aq be
   refine rgB aw B [] [] [(6, y6 (bShr .u64 (wu64 ((wu64 ((wu64 b) - c)) - (wu64 h))) 63))] ?_; intro bS ax; clear aw
   refine ibn ?_
   refine thn ?_
   refine rgB ax B [] [] [(7, i6 (w64 (a + 1)))] ?_; intro bT bk; clear ax
   refine rd ?_
   exact ⟨⟨bShr .u64 (wu64 ((wu64 ((wu64 b) - c)) - (wu64 h))) 63, w64 (a + 1), f.set a.toNat (wu32 (wu64 ((wu64 ((wu64 b) - c)) - (wu64 h))))⟩, au.1, au.2, (bk.reg).anyβ _ (by kernel_rfl), B.keep (List.Sublist.cons_cons _ (List.Sublist.slnil))⟩
  have bl := p.2 A; clear p
  refine wp_skip ?_
  refine thn ?_
  refine sqH ?_; intro bm ay
  refine bt j g 4 [] [] [(36, .slice (sm d) f.length (u0.length : Int).toNat), (37, i6 a), (39, .int .u32 (wu32 (wu64 ((wu64 b) - c))))] ?_; intro bU az; clear j
  obtain ⟨bn, aA⟩ := bl
  refine ixo az g 0 (T := (tyInt .u32)) (xs := f) a bn (k := .i64) (e := 109) (bytes := 4) (nog rfl _) rfl (by kernel_rfl) rfl (by kernel_rfl) (by kernel_rfl) rfl (by kernel_rfl) ?_; intro bo bp bq v; clear az
  obtain rfl : d = bo := by simpa using bq
  refine so v g 0 (T := (tyInt .u32)) (xs := f) a.toNat (wu32 (wu64 ((wu64 b) - c))) (u := .int .u32 (wu32 (wu64 ((wu64 b) - c)))) (nog rfl _) rfl rfl (by kernel_rfl) rfl (by kernel_rfl) rfl (by kernel_rfl) (by first | omega | (simp only [List.length_set] at *; omega)) rfl ?_; intro br aB; clear g
  have aC : Fr 45 [] [⟨0, [], .slice ao1 u0.length cap2⟩, ⟨1, [], .slice ao4 u1.length cap5⟩, ⟨5, [], .slice (sm d) (f.set a.toNat (wu32 (wu64 ((wu64 b) - c)))).length (u0.length : Int).toNat⟩, ⟨6, [], y6 c⟩, ⟨7, [], i6 a⟩, ⟨8, [], y6 (wu64 ((wu64 b) - c))⟩, ⟨15, [], .bool (decide (a < (u0.length : Int)))⟩, ⟨18, [], .slice ao1 u0.length cap2⟩, ⟨19, [], i6 a⟩, ⟨20, [], pt af ag⟩, ⟨21, [], .int .u32 b⟩, ⟨28, [], .bool (decide (a < (u1.length : Int)))⟩, ⟨36, [], .slice (sm d) (f.set a.toNat (wu32 (wu64 ((wu64 b) - c)))).length (u0.length : Int).toNat⟩, ⟨37, [], i6 a⟩, ⟨39, [], .int .u32 (wu32 (wu64 ((wu64 b) - c)))⟩, ⟨40, [], .pointer (some ⟨d, a.toNat * 1, none⟩)⟩] bp := by (try simp only [List.length_set] at v); (try simp only [List.length_set]); exact v.reg
  clear v
  have C : Mem w.heap.size [] w Z [.own (tyInt .u32) 109 (sm d) (u0.length : Int).toNat (f.set a.toNat (wu32 (wu64 ((wu64 b) - c))))] Z br := aB; clear aB
  refine nlH (ay _ _ ?_); clear ay bm
  refine rgB aC C [] [] [(6, y6 (bShr .u64 (wu64 ((wu64 b) - c)) 63))] ?_; intro bV aD; clear aC
  refine ibn ?_
  refine thn ?_
  refine rgB aD C [] [] [(7, i6 (w64 (a + 1)))] ?_; intro bW bs; clear aD
  refine rd ?_
  exact ⟨⟨bShr .u64 (wu64 ((wu64 b) - c)) 63, w64 (a + 1), f.set a.toNat (wu32 (wu64 ((wu64 b) - c)))⟩, aA.1, aA.2, (bs.reg).anyβ _ (by kernel_rfl), C.keep (List.Sublist.cons_cons _ (List.Sublist.slnil))⟩
 have aE := o.2 y; clear o
 refine wp_exit ?_
 refine thx ?_
 refine thx ?_
 refine ibx ?_
 refine thn ?_
 refine sqH ?_; intro bu aF
 refine s1 i 43 (.slice (sm d) f.length (u0.length : Int).toNat) ?_; intro bX aG; clear i
 obtain ⟨bv, D, aH, E⟩ := g.freeze 0 rfl
 replace hs3 := hs3.mono D
 replace hs6 := hs6.mono D
 replace m := Fz.le.trans m D
 have F : Mem w.heap.size [] w Z [] bv X := aH; clear aH
 refine ck aG 111 #[.slice (sm d) f.length (u0.length : Int).toNat] ?_
 refine (gtrim_fun f (sm d) (u0.length : Int).toNat _ _ E F.fz).mono ?_; rintro _ bw ⟨G, H, aI, rfl, aJ, hm⟩; refine ⟨_, rfl, ?_⟩; intro bY aK; have aL := F.callZ hm; have x := hm.ext.le; clear hm F aG
 replace hs3 := hs3.mono x
 replace hs6 := hs6.mono x
 replace E := E.mono x
 replace m := Fz.le.trans m x
 have bx : Mem w.heap.size [] w Z [] aI bw := aL; clear aL
 have bz := aE (aJ.small); clear aE
 refine s1 aK 4 (.slice G (gtrimS f).length H) ?_; intro bZ bA; clear aK
 refine nlH (aF _ _ ?_); clear aF bu
 refine wp_ret ?_
 refine ra1 bA (.slice G (gtrimS f).length H) ?_
 exact ⟨(gtrimS f), G, H, aI, rfl, bz, aJ, bx.keep (List.Sublist.slnil)⟩

end Go.Proofs.YtdndfbamhnchfaaDoor
set_option linter.unusedVariables false
set_option linter.unusedSimpArgs false
set_option maxRecDepth 100000
set_option maxHeartbeats 0
namespace Go.Proofs.YtdndfbamhnchfaaDoor
open Go.Sy Go.RowKit
abbrev e71Nc (X : BRat) (A0 : Option Addr) (C0 : Nat) (A1 : Option Addr) (C1 : Nat) : List Value := [.bool X.a.neg, .slice A0 X.a.abs.length C0, .bool X.b.neg, .slice A1 X.b.abs.length C1]
theorem gplain_fun (u0 : List Int) (hpre : wok u0) (ao1 : Option Addr) (cap2 : Nat) (Z : Fz) (w : World) (hs3 : SlR (tyInt .u32) Z ao1 cap2 u0) (hZ : Z.on w) : Calls Tryd.prog 137 #[.slice ao1 u0.length cap2] w fun e w' => e = .returned (y6 (gplainS u0)) ∧ Below w.heap.size w w' :=
  (gplain_walk u0 ao1 cap2 Z w hs3 hZ (gplain_ok u0 hpre)).mono fun _ _ ⟨r, he, hk, hb⟩ => ⟨by subst hk; exact he, hb⟩

theorem gcmp_fun (u0 : List Int) (u1 : List Int) (hpre : u0.length ≤ 1000 ∧ u1.length ≤ 1000 ∧ u0 = ws (wv u0) ∧ u1 = ws (wv u1)) (ao1 : Option Addr) (cap2 : Nat) (ao4 : Option Addr) (cap5 : Nat) (Z : Fz) (w : World) (hs3 : SlR (tyInt .u32) Z ao1 cap2 u0) (hs6 : SlR (tyInt .u32) Z ao4 cap5 u1) (hZ : Z.on w) : Calls Tryd.prog 89 #[.slice ao1 u0.length cap2, .slice ao4 u1.length cap5] w fun e w' => e = .returned (i6 (gcmpS u0 u1)) ∧ Below w.heap.size w w' :=
  (gcmp_walk u0 u1 ao1 cap2 ao4 cap5 Z w hs3 hs6 hZ (gcmp_ok u0 u1 hpre)).mono fun _ _ ⟨r, he, hk, hb⟩ => ⟨by subst hk; exact he, hb⟩

theorem gtwin_fun (u0 : List Int) (hpre : u0.length ≤ 1000000) (ao1 : Option Addr) (cap2 : Nat) (Z : Fz) (w : World) (hs3 : SlR (tyInt .u32) Z ao1 cap2 u0) (hZ : Z.on w) : Calls Tryd.prog 88 #[.slice ao1 u0.length cap2] w fun e w' => ∃ (ao1001 : Option Addr) (cap1002 : Nat) (Z' : Fz), e = .returned (.slice ao1001 (gtwinS u0).length cap1002) ∧ Mem w.heap.size [] w Z [.own (tyInt .u32) 109 ao1001 cap1002 (gtwinS u0)] Z' w' :=
  (gtwin_walk u0 ao1 cap2 Z w hs3 hZ (gtwin_ok u0 hpre)).mono fun _ _ ⟨r, h0, h1, h2, he, hk, hm⟩ => by subst hk; exact ⟨h0, h1, h2, he, hm⟩

theorem gwords_fun (u0 : Int) (hpre : 0 ≤ u0 ∧ u0 ≤ 18446744073709551615)  (Z : Fz) (w : World)  (hZ : Z.on w) : Calls Tryd.prog 110 #[y6 u0] w fun e w' => ∃ (ao1001 : Option Addr) (cap1002 : Nat) (Z' : Fz), e = .returned (.slice ao1001 (gwordsS u0).length cap1002) ∧ SlR (tyInt .u32) Z' ao1001 cap1002 (gwordsS u0) ∧ Mem w.heap.size [] w Z [] Z' w' :=
  (gwords_walk u0  Z w  hZ (gwords_ok u0 hpre)).mono fun _ _ ⟨r, h0, h1, h2, he, hk, f0, hm⟩ => by subst hk; exact ⟨h0, h1, h2, he, f0, hm⟩

theorem gmul_fun (u0 : List Int) (u1 : List Int) (hpre : wok u0 ∧ wok u1 ∧ u0.length ≤ 1000 ∧ u1.length ≤ 1000) (ao1 : Option Addr) (cap2 : Nat) (ao4 : Option Addr) (cap5 : Nat) (Z : Fz) (w : World) (hs3 : SlR (tyInt .u32) Z ao1 cap2 u0) (hs6 : SlR (tyInt .u32) Z ao4 cap5 u1) (hZ : Z.on w) : Calls Tryd.prog 109 #[.slice ao1 u0.length cap2, .slice ao4 u1.length cap5] w fun e w' => ∃ (ao1001 : Option Addr) (cap1002 : Nat) (Z' : Fz), e = .returned (.slice ao1001 (gmulS u0 u1).length cap1002) ∧ SlR (tyInt .u32) Z' ao1001 cap1002 (gmulS u0 u1) ∧ Mem w.heap.size [] w Z [] Z' w' :=
  (gmul_walk u0 u1 ao1 cap2 ao4 cap5 Z w hs3 hs6 hZ (gmul_ok u0 u1 hpre)).mono fun _ _ ⟨r, h0, h1, h2, he, hk, f0, hm⟩ => by subst hk; exact ⟨h0, h1, h2, he, f0, hm⟩

theorem gadd_fun (u0 : List Int) (u1 : List Int) (hpre : wok u0 ∧ wok u1 ∧ u0.length ≤ 1000000 ∧ u1.length ≤ 1000000) (ao1 : Option Addr) (cap2 : Nat) (ao4 : Option Addr) (cap5 : Nat) (Z : Fz) (w : World) (hs3 : SlR (tyInt .u32) Z ao1 cap2 u0) (hs6 : SlR (tyInt .u32) Z ao4 cap5 u1) (hZ : Z.on w) : Calls Tryd.prog 85 #[.slice ao1 u0.length cap2, .slice ao4 u1.length cap5] w fun e w' => ∃ (ao1001 : Option Addr) (cap1002 : Nat) (Z' : Fz), e = .returned (.slice ao1001 (gaddS u0 u1).length cap1002) ∧ SlR (tyInt .u32) Z' ao1001 cap1002 (gaddS u0 u1) ∧ Mem w.heap.size [] w Z [] Z' w' :=
  (gadd_walk u0 u1 ao1 cap2 ao4 cap5 Z w hs3 hs6 hZ (gadd_ok u0 u1 hpre)).mono fun _ _ ⟨r, h0, h1, h2, he, hk, f0, hm⟩ => by subst hk; exact ⟨h0, h1, h2, he, f0, hm⟩

theorem gsub_fun (u0 : List Int) (u1 : List Int) (hpre : wok u0 ∧ wok u1 ∧ u0.length ≤ 1000 ∧ u1.length ≤ u0.length ∧ wv u1 ≤ wv u0) (ao1 : Option Addr) (cap2 : Nat) (ao4 : Option Addr) (cap5 : Nat) (Z : Fz) (w : World) (hs3 : SlR (tyInt .u32) Z ao1 cap2 u0) (hs6 : SlR (tyInt .u32) Z ao4 cap5 u1) (hZ : Z.on w) : Calls Tryd.prog 87 #[.slice ao1 u0.length cap2, .slice ao4 u1.length cap5] w fun e w' => ∃ (ao1001 : Option Addr) (cap1002 : Nat) (Z' : Fz), e = .returned (.slice ao1001 (gsubS u0 u1).length cap1002) ∧ SlR (tyInt .u32) Z' ao1001 cap1002 (gsubS u0 u1) ∧ Mem w.heap.size [] w Z [] Z' w' :=
  (gsub_walk u0 u1 ao1 cap2 ao4 cap5 Z w hs3 hs6 hZ (gsub_ok u0 u1 hpre)).mono fun _ _ ⟨r, h0, h1, h2, he, hk, f0, hm⟩ => by subst hk; exact ⟨h0, h1, h2, he, f0, hm⟩

theorem gdiv_walk (u0 : List Int) (u1 : List Int) (ao1 : Option Addr) (cap2 : Nat) (ao4 : Option Addr) (cap5 : Nat) (Z : Fz) (w : World) (hs3 : SlR (tyInt .u32) Z ao1 cap2 u0) (hs6 : SlR (tyInt .u32) Z ao4 cap5 u1) (hZ : Z.on w) {K : ((List Int) × (List Int)) → Prop} (hp : gdiv_vc u0 u1 K) : Calls Tryd.prog 128 #[.slice ao1 u0.length cap2, .slice ao4 u1.length cap5] w fun e w' => ∃ (r : (List Int) × (List Int)) (ao1001 : Option Addr) (cap1002 : Nat) (ao1004 : Option Addr) (cap1005 : Nat) (Z' : Fz), e = .returned (.tuple #[.slice ao1001 r.1.length cap1002, .slice ao1004 r.2.length cap1005]) ∧ K r ∧ SlR (tyInt .u32) Z' ao1001 cap1002 r.1 ∧ SlR (tyInt .u32) Z' ao1004 cap1005 r.2 ∧ Mem w.heap.size [] w Z [] Z' w' := by
 refine enter0 Tryd.func128 rfl rfl (by kernel_rfl) ?_; intro a0 G; have c := Mem.start w Z hZ; have a := Fz.le.refl Z
 have H := hp (hs3.small); clear hp
 have an := H (hs6.small); clear H
 refine sqB G c [] [] [] ?_; intro a2 I; clear G
 refine wp_seq ?_
 refine sqB I c [] [] [(30, .bool ((u1.length : Int) == 0))] ?_; intro a3 n; clear I
 obtain ⟨ao, ap⟩ := an
 refine cn n ao ?_
 refine wp_skip ?_
 refine thn ?_
 refine wp_seq ?_
 refine sqH ?_; intro aq J
 refine bt n c 2 [] [] [(31, .slice ao1 u0.length cap2), (32, .slice ao4 u1.length cap5)] ?_; intro a4 L; clear n
 obtain ⟨ar, i⟩ := ap
 refine fc L c (gcmp_fun u0 u1 ar ao1 cap2 ao4 cap5 _ _ hs3 hs6 c.fz) ?_; intro a5 a6 M b; clear L c
 refine s1 M 34 (.bool (decide ((gcmpS u0 u1) < 0))) ?_; intro a7 f; clear M
 refine nlH (J _ _ ?_); clear J aq
 refine cd f (t := decide ((gcmpS u0 u1) < 0)) (by kernel_rfl) (fun o => ?_) (fun o => ?_)
 ·
  have au := i.1 o; clear i
  refine sqH ?_; intro av N
  refine s1 f 35 (.slice ao1 u0.length cap2) ?_; intro a8 O; clear f
  obtain ⟨aw, P⟩ := au
  refine ck O 88 #[.slice ao1 u0.length cap2] ?_
  refine (gtwin_fun u0 aw ao1 cap2 _ _ hs3 b.fz).mono ?_; rintro _ Q ⟨j, k, ax, rfl, hm⟩; refine ⟨_, rfl, ?_⟩; intro a9 R; have S := b.callZ hm; have p := hm.ext.le; clear hm b O
  replace hs3 := hs3.mono p
  replace hs6 := hs6.mono p
  replace a := Fz.le.trans a p
  have q : Mem w.heap.size [] w Z [.own (tyInt .u32) 109 j k (gtwinS u0)] ax Q := S; clear S
  have ay := P (q.ownSmall 0 rfl); clear P
  refine bt R q 2 [] [] [(4, .slice none 0 0), (5, .slice j (gtwinS u0).length k)] ?_; intro ba az; clear R
  refine nlH (N _ _ ?_); clear N av
  refine wp_ret ?_
  refine thr ?_
  obtain ⟨T, s, U, aA⟩ := q.freeze 0 rfl
  replace hs3 := hs3.mono s
  replace hs6 := hs6.mono s
  replace a := Fz.le.trans a s
  have aB : Mem w.heap.size [] w Z [] T Q := U; clear U
  refine ra2 az (.tuple #[.slice none 0 0, .slice j (gtwinS u0).length k]) ?_
  exact ⟨([], (gtwinS u0)), none, 0, j, k, T, rfl, ay, (SlR.nil _ _), aA, aB.keep (List.Sublist.slnil)⟩
 have aC := i.2 o; clear i
 refine wp_skip ?_
 refine thn ?_
 refine wp_seq ?_
 refine sqB f b [] [] [(39, .bool (decide ((u0.length : Int) ≤ 2)))] ?_; intro bb u; clear f
 obtain ⟨aD, aE⟩ := aC
 refine cy u aD ?_
 refine sqH ?_; intro aF V
 refine s1 u 40 (.slice ao1 u0.length cap2) ?_; intro bc W; clear u
 obtain ⟨aG, aH⟩ := aE
 refine fc W b (gplain_fun u0 aG ao1 cap2 _ _ hs3 b.fz) ?_; intro bd be X v; clear W b
 refine s1 X 42 (.slice ao4 u1.length cap5) ?_; intro bf Y; clear X
 obtain ⟨aI, aJ⟩ := aH
 refine fc Y v (gplain_fun u1 aI ao4 cap5 _ _ hs6 v.fz) ?_; intro bg bh aa x; clear Y v
 refine bt aa x 2 [] [] [(6, y6 (gplainS u0)), (7, y6 (gplainS u1))] ?_; intro aK ab; clear aa
 refine nlH (V _ _ ?_); clear V aF
 have ac : Fr 273 [] [⟨6, [], y6 (gplainS u0)⟩, ⟨7, [], y6 (gplainS u1)⟩] aK := ab.reg; clear ab
 refine wp_seq (rgS mixed x [(0, true), (1, true), (4, true), (5, true), (2, true), (6, true), (3, false), (7, false), (8, true), (9, true)] [] [] [] ?_)
 intro aL ad bi y; clear x
 have d := Fz.le.refl Z
 refine cS ac 4 [] [] [(44, y6 (gplainS u0)), (45, y6 (gplainS u1)), (48, y6 (gplainS u0)), (49, y6 (gplainS u1))] ?_; intro bj z; clear ac
 obtain ⟨aM, aN⟩ := aJ
 refine cst rfl z (y6 (wu64 ((gplainS u0).tdiv (gplainS u1)))) (nog rfl _) rfl (by kernel_rfl) (fun v108 hC => quo_run z (g := []) rfl (by kernel_rfl) (by kernel_rfl) aM rfl) ?_; intro bk A; clear z
 obtain ⟨aO, aP⟩ := aN
 refine cst rfl A (y6 ((gplainS u0).tmod (gplainS u1))) (nog rfl _) rfl (by kernel_rfl) (fun v113 hC => rem_run A (g := []) rfl (by kernel_rfl) (by kernel_rfl) aO rfl) ?_; intro bl ae; clear A
 refine eS rfl ?_; intro aQ af
 obtain ⟨aR, aS⟩ := aP
 refine ck ae 110 #[y6 (wu64 ((gplainS u0).tdiv (gplainS u1)))] ?_
 refine (gwords_fun (wu64 ((gplainS u0).tdiv (gplainS u1))) aR _ _ y.fz).mono ?_; rintro _ aT ⟨B, C, aU, rfl, D, hm⟩; refine ⟨_, rfl, ?_⟩; intro bm ag; have ah := y.callZ hm; have l := hm.ext.le; clear hm y ae
 replace hs3 := hs3.mono l
 replace hs6 := hs6.mono l
 replace d := d.mono l
 replace a := Fz.le.trans a l
 have m : Mem w.heap.size [] w Z [] aU aT := ah; clear ah
 refine nl (qnI (af _ _ (m.cst d []) ?_)); clear af aQ
 refine eS rfl ?_; intro aV ai
 obtain ⟨aW, aX⟩ := aS
 refine ck ag 110 #[y6 ((gplainS u0).tmod (gplainS u1))] ?_
 refine (gwords_fun ((gplainS u0).tmod (gplainS u1)) aW _ _ m.fz).mono ?_; rintro _ aY ⟨E, F, aj, rfl, aZ, hm⟩; refine ⟨_, rfl, ?_⟩; intro bn ak; have al := m.callZ hm; have h := hm.ext.le; clear hm m ag
 replace hs3 := hs3.mono h
 replace hs6 := hs6.mono h
 replace d := d.mono h
 replace D := D.mono h
 replace a := Fz.le.trans a h
 have am : Mem w.heap.size [] w Z [] aj aY := al; clear al
 refine nl (qnI (ai _ _ (am.cst d []) ?_)); clear ai aV
 refine cS ak 2 [] [] [(4, .slice B (gwordsS (wu64 ((gplainS u0).tdiv (gplainS u1)))).length C), (5, .slice E (gwordsS ((gplainS u0).tmod (gplainS u1))).length F)] ?_; intro bo a1; clear ak
 refine nS (ad _ _ ?_); clear ad aL
 refine thn ?_
 refine wp_ret ?_
 refine thr ?_
 refine ra2 a1 (.tuple #[.slice B (gwordsS (wu64 ((gplainS u0).tdiv (gplainS u1)))).length C, .slice E (gwordsS ((gplainS u0).tmod (gplainS u1))).length F]) ?_
 exact ⟨((gwordsS (wu64 ((gplainS u0).tdiv (gplainS u1)))), (gwordsS ((gplainS u0).tmod (gplainS u1)))), B, C, E, F, aj, rfl, aX, D, aZ, am.keep (List.Sublist.slnil)⟩

theorem gcom_walk (u0 : List Int) (u1 : List Int) (ao1 : Option Addr) (cap2 : Nat) (ao4 : Option Addr) (cap5 : Nat) (Z : Fz) (w : World) (hs3 : SlR (tyInt .u32) Z ao1 cap2 u0) (hs6 : SlR (tyInt .u32) Z ao4 cap5 u1) (hZ : Z.on w) {K : (List Int) → Prop} (hp : gcom_vc u0 u1 K) : Calls Tryd.prog 127 #[.slice ao1 u0.length cap2, .slice ao4 u1.length cap5] w fun e w' => ∃ (r : (List Int)) (ao1001 : Option Addr) (cap1002 : Nat) (Z' : Fz), e = .returned (.slice ao1001 r.length cap1002) ∧ K r ∧ SlR (tyInt .u32) Z' ao1001 cap1002 r ∧ Mem w.heap.size [] w Z [] Z' w' := by
 refine enter0 Tryd.func127 rfl rfl (by kernel_rfl) ?_; intro a0 H; have q := Mem.start w Z hZ; have I := Fz.le.refl Z
 have J := hp (hs3.small); clear hp
 have av := J (hs6.small); clear J
 refine sqB H q [] [] [] ?_; intro L M; clear H
 refine wp_seq ?_
 refine wp_block ?_
 have N : Fr 49 [] [⟨0, [], .slice ao1 u0.length cap2⟩, ⟨1, [], .slice ao4 u1.length cap5⟩] L := M.reg; clear M
 have O : Fr 49 [] [⟨0, [], .slice ao1 u0.length cap2⟩, ⟨1, [], .slice ao4 u1.length cap5⟩] L := N.reg; clear N
 obtain ⟨aw, ax, ay, az⟩ := av
 refine lp (ι := (List Int) × (List Int) × (Option Addr) × Nat × (Option Addr) × Nat) (fun s => [⟨0, [], .slice s.2.2.1 s.1.length s.2.2.2.1⟩, ⟨1, [], .slice s.2.2.2.2.1 s.2.1.length s.2.2.2.2.2⟩]) (fun s => []) (fun s => Z) (fun s => aw s.1 s.2.1 ∧ SlR (tyInt .u32) Z s.2.2.1 s.2.2.2.1 s.1 ∧ SlR (tyInt .u32) Z s.2.2.2.2.1 s.2.2.2.2.2 s.2.1) (fun s => ax s.1 s.2.1) ⟨u0, u1, ao1, cap2, ao4, cap5⟩ ⟨ay, hs3, hs6⟩ (by exact O.reg) (by exact q) ?_
 rintro ⟨b, d, h, i, u, v⟩ ⟨aA, n, x⟩ aB aC P Q
 have R : Fr 49 [] [⟨0, [], .slice h b.length i⟩, ⟨1, [], .slice u d.length v⟩] aB := P; clear P O
 have f : Mem w.heap.size [] w Z [] Z aC := Q; clear Q q
 have aD := az b d aA
 refine wp_seq ?_
 refine sqB R f [] [] [(13, .bool (decide ((d.length : Int) > 2)))] ?_; intro ba y; clear R
 obtain ⟨aE, o⟩ := aD
 refine cn y aE ?_
 refine wp_exit ?_
 refine thx ?_
 refine thx ?_
 refine ibx ?_
 refine thn ?_
 refine wp_seq ?_
 refine sqB y f [] [] [(24, .bool ((d.length : Int) == 0))] ?_; intro bb k; clear y
 refine cd k (t := (d.length : Int) == 0) (by kernel_rfl) (fun z => ?_) (fun z => ?_)
 ·
  have aF := o.1 z; clear o
  refine sqB k f [] [] [(4, .slice h b.length i)] ?_; intro bc aG; clear k
  refine wp_ret ?_
  refine thr ?_
  refine ra1 aG (.slice h b.length i) ?_
  exact ⟨b, h, i, Z, rfl, aF, n, f.keep (List.Sublist.slnil)⟩
 have aH := o.2 z; clear o
 refine wp_skip ?_
 refine thn ?_
 refine wp_seq ?_
 refine sqB k f [] [] [(28, .bool (decide ((b.length : Int) > 2)))] ?_; intro bd A; clear k
 obtain ⟨aI, aJ⟩ := aH
 refine cn A aI ?_
 refine wp_skip ?_
 refine thn ?_
 refine sqH ?_; intro aK S
 refine s1 A 37 (.slice h b.length i) ?_; intro be T; clear A
 obtain ⟨aL, aM⟩ := aJ
 refine fc T f (gplain_fun b aL h i _ _ n f.fz) ?_; intro bf bg U B; clear T f
 refine s1 U 39 (.slice u d.length v) ?_; intro bh V; clear U
 obtain ⟨aN, aO⟩ := aM
 refine fc V B (gplain_fun d aN u v _ _ x B.fz) ?_; intro bi bj W C; clear V B
 refine bt W C 2 [] [] [(9, y6 (gplainS b)), (10, y6 (gplainS d))] ?_; intro X Y; clear W
 refine nlH (S _ _ ?_); clear S aK
 refine wp_seq ?_
 refine wp_block ?_
 have aa : Fr 49 [] [⟨9, [], y6 (gplainS b)⟩, ⟨10, [], y6 (gplainS d)⟩] X := Y.reg; clear Y
 have ab : Fr 49 [] [⟨9, [], y6 (gplainS b)⟩, ⟨10, [], y6 (gplainS d)⟩] X := aa.reg; clear aa
 obtain ⟨aP, aQ, aR, aS⟩ := aO
 refine lp (ι := Int × Int) (fun s => [⟨9, [], y6 s.1⟩, ⟨10, [], y6 s.2⟩]) (fun s => []) (fun s => Z) (fun s => aP s.1 s.2) (fun s => aQ s.1 s.2) ⟨(gplainS b), (gplainS d)⟩ aR (by exact ab.reg) (by exact C) ?_
 rintro ⟨a, c⟩ aT aU aV ac ad
 have ae : Fr 49 [] [⟨9, [], y6 a⟩, ⟨10, [], y6 c⟩] aU := ac; clear ac ab
 have j : Mem w.heap.size [] w Z [] Z aV := ad; clear ad C
 have p := aS a c aT
 refine wp_seq ?_
 refine sqB ae j [] [] [(42, .bool (decide (c > 0)))] ?_; intro aW l; clear ae
 refine cd l (t := decide (c > 0)) (by kernel_rfl) (fun D => ?_) (fun D => ?_)
 ·
  have aX := p.1 D; clear p
  refine wp_skip ?_
  refine thn ?_
  refine wp_block ?_
  have af : Fr 49 [] [⟨9, [], y6 a⟩, ⟨10, [], y6 c⟩] aW := l.reg; clear l
  refine qrgH mixed (by kernel_rfl) j ?_; intro aY ag
  refine q1 af 43 (y6 c) ?_; intro bk ah; clear af
  refine q1 ah 44 (y6 a) ?_; intro bl ai; clear ah
  refine q1 ai 45 (y6 c) ?_; intro bm E; clear ai
  obtain ⟨aZ, aj⟩ := aX
  refine qst E (y6 (a.tmod c)) (nog rfl _) rfl (by kernel_rfl) (fun v114 hC => rem_run E (g := []) rfl (by kernel_rfl) (by kernel_rfl) aZ rfl) ?_; intro bn ak; clear E
  refine q1 ak 9 (y6 c) ?_; intro bo al; clear ak
  refine q1 al 10 (y6 (a.tmod c)) ?_; intro bp a1; clear al
  refine qnl (ag _ ?_); clear ag aY; intro bq a2; clear j
  refine ibn ?_
  refine rd ?_
  exact ⟨⟨c, a.tmod c⟩, aj.1, aj.2, (a1.reg).anyβ _ (by kernel_rfl), a2.keep (List.Sublist.slnil)⟩
 have a3 := p.2 D; clear p
 refine wp_exit ?_
 refine thx ?_
 refine thx ?_
 refine ibx ?_
 refine thn ?_
 refine sqH ?_; intro a4 am
 refine s1 l 47 (y6 a) ?_; intro br an; clear l
 obtain ⟨a5, ao⟩ := a3
 refine ck an 110 #[y6 a] ?_
 refine (gwords_fun a a5 _ _ j.fz).mono ?_; rintro _ a6 ⟨F, G, ap, rfl, aq, hm⟩; refine ⟨_, rfl, ?_⟩; intro bs ar; have au := j.callZ hm; have m := hm.ext.le; clear hm j an
 replace hs3 := hs3.mono m
 replace hs6 := hs6.mono m
 replace n := n.mono m
 replace x := x.mono m
 replace I := Fz.le.trans I m
 have a7 : Mem w.heap.size [] w Z [] ap a6 := au; clear au
 have a8 := ao (aq.small); clear ao
 refine s1 ar 4 (.slice F (gwordsS a).length G) ?_; intro bu a9; clear ar
 refine nlH (am _ _ ?_); clear am a4
 refine wp_ret ?_
 refine ra1 a9 (.slice F (gwordsS a).length G) ?_
 exact ⟨(gwordsS a), F, G, ap, rfl, a8, aq, a7.keep (List.Sublist.slnil)⟩

theorem gsum_walk (u0 : Bool) (u1 : List Int) (u2 : Bool) (u3 : List Int) (ao1 : Option Addr) (cap2 : Nat) (ao4 : Option Addr) (cap5 : Nat) (Z : Fz) (w : World) (hs3 : SlR (tyInt .u32) Z ao1 cap2 u1) (hs6 : SlR (tyInt .u32) Z ao4 cap5 u3) (hZ : Z.on w) {K : (Bool × (List Int)) → Prop} (hp : gsum_vc u0 u1 u2 u3 K) : Calls Tryd.prog 108 #[.bool u0, .slice ao1 u1.length cap2, .bool u2, .slice ao4 u3.length cap5] w fun e w' => ∃ (r : Bool × (List Int)) (ao1001 : Option Addr) (cap1002 : Nat) (Z' : Fz), e = .returned (.tuple #[.bool r.1, .slice ao1001 r.2.length cap1002]) ∧ K r ∧ SlR (tyInt .u32) Z' ao1001 cap1002 r.2 ∧ Mem w.heap.size [] w Z [] Z' w' := by
 refine enter0 Tryd.func108 rfl rfl (by kernel_rfl) ?_; intro a0 v; have a := Mem.start w Z hZ; have c := Fz.le.refl Z
 have x := hp (hs3.small); clear hp
 have g := x (hs6.small); clear x
 refine sqB v a [] [] [] ?_; intro az y; clear v
 refine wp_seq ?_
 refine sqB y a [] [] [(12, .bool (u0 == u2))] ?_; intro aA d; clear y
 refine cd d (t := u0 == u2) (by kernel_rfl) (fun i => ?_) (fun i => ?_)
 ·
  have ac := g.1 i; clear g
  refine sqH ?_; intro ad z
  refine bt d a 3 [] [] [(13, .bool u0), (14, .slice ao1 u1.length cap2), (15, .slice ao4 u3.length cap5)] ?_; intro aB A; clear d
  obtain ⟨ae, B⟩ := ac
  refine ck A 85 #[.slice ao1 u1.length cap2, .slice ao4 u3.length cap5] ?_
  refine (gadd_fun u1 u3 ae ao1 cap2 ao4 cap5 _ _ hs3 hs6 a.fz).mono ?_; rintro _ af ⟨j, k, C, rfl, D, hm⟩; refine ⟨_, rfl, ?_⟩; intro aC E; have F := a.callZ hm; have l := hm.ext.le; clear hm a A
  replace hs3 := hs3.mono l
  replace hs6 := hs6.mono l
  replace c := Fz.le.trans c l
  have G : Mem w.heap.size [] w Z [] C af := F; clear F
  have ag := B (D.small); clear B
  refine bt E G 2 [] [] [(8, .bool u0), (9, .slice j (gaddS u1 u3).length k)] ?_; intro aD ah; clear E
  refine nlH (z _ _ ?_); clear z ad
  refine wp_ret ?_
  refine thr ?_
  refine ra2 ah (.tuple #[.bool u0, .slice j (gaddS u1 u3).length k]) ?_
  exact ⟨(u0, (gaddS u1 u3)), j, k, C, rfl, ag, D, G.keep (List.Sublist.slnil)⟩
 have ai := g.2 i; clear g
 refine wp_skip ?_
 refine thn ?_
 refine wp_seq ?_
 refine sqH ?_; intro aj H
 refine bt d a 2 [] [] [(17, .slice ao1 u1.length cap2), (18, .slice ao4 u3.length cap5)] ?_; intro aE I; clear d
 obtain ⟨ak, h⟩ := ai
 refine fc I a (gcmp_fun u1 u3 ak ao1 cap2 ao4 cap5 _ _ hs3 hs6 a.fz) ?_; intro aF aG J b; clear I a
 refine s1 J 20 (.bool (decide ((gcmpS u1 u3) ≥ 0))) ?_; intro aH f; clear J
 refine nlH (H _ _ ?_); clear H aj
 refine cd f (t := decide ((gcmpS u1 u3) ≥ 0)) (by kernel_rfl) (fun m => ?_) (fun m => ?_)
 ·
  have al := h.1 m; clear h
  refine sqH ?_; intro am L
  refine bt f b 3 [] [] [(21, .bool u0), (22, .slice ao1 u1.length cap2), (23, .slice ao4 u3.length cap5)] ?_; intro aI M; clear f
  obtain ⟨an, N⟩ := al
  refine ck M 87 #[.slice ao1 u1.length cap2, .slice ao4 u3.length cap5] ?_
  refine (gsub_fun u1 u3 an ao1 cap2 ao4 cap5 _ _ hs3 hs6 b.fz).mono ?_; rintro _ ao ⟨n, o, O, rfl, P, hm⟩; refine ⟨_, rfl, ?_⟩; intro aJ Q; have R := b.callZ hm; have p := hm.ext.le; clear hm b M
  replace hs3 := hs3.mono p
  replace hs6 := hs6.mono p
  replace c := Fz.le.trans c p
  have S : Mem w.heap.size [] w Z [] O ao := R; clear R
  have ap := N (P.small); clear N
  refine bt Q S 2 [] [] [(8, .bool u0), (9, .slice n (gsubS u1 u3).length o)] ?_; intro aK aq; clear Q
  refine nlH (L _ _ ?_); clear L am
  refine wp_ret ?_
  refine thr ?_
  refine ra2 aq (.tuple #[.bool u0, .slice n (gsubS u1 u3).length o]) ?_
  exact ⟨(u0, (gsubS u1 u3)), n, o, O, rfl, ap, P, S.keep (List.Sublist.slnil)⟩
 have ar := h.2 m; clear h
 refine wp_skip ?_
 refine thn ?_
 refine sqH ?_; intro au T
 refine bt f b 3 [] [] [(25, .bool u2), (26, .slice ao4 u3.length cap5), (27, .slice ao1 u1.length cap2)] ?_; intro aL U; clear f
 obtain ⟨av, V⟩ := ar
 refine ck U 87 #[.slice ao4 u3.length cap5, .slice ao1 u1.length cap2] ?_
 refine (gsub_fun u3 u1 av ao4 cap5 ao1 cap2 _ _ hs6 hs3 b.fz).mono ?_; rintro _ aw ⟨q, s, W, rfl, X, hm⟩; refine ⟨_, rfl, ?_⟩; intro aM Y; have aa := b.callZ hm; have u := hm.ext.le; clear hm b U
 replace hs3 := hs3.mono u
 replace hs6 := hs6.mono u
 replace c := Fz.le.trans c u
 have ab : Mem w.heap.size [] w Z [] W aw := aa; clear aa
 have ax := V (X.small); clear V
 refine bt Y ab 2 [] [] [(8, .bool u2), (9, .slice q (gsubS u3 u1).length s)] ?_; intro aN ay; clear Y
 refine nlH (T _ _ ?_); clear T au
 refine wp_ret ?_
 refine ra2 ay (.tuple #[.bool u2, .slice q (gsubS u3 u1).length s]) ?_
 exact ⟨(u2, (gsubS u3 u1)), q, s, W, rfl, ax, X, ab.keep (List.Sublist.slnil)⟩

theorem ggive_walk (u0 : BInt) (u1 : Bool) (u2 : List Int) (b1 : Nat) (ao2 : Option Addr) (cap3 : Nat) (ao5 : Option Addr) (cap6 : Nat) (B : Nat) (w0 : World) (Z0 : Fz) (Rr : List Res) (Z : Fz) (w : World) (hs4 : SlR (tyInt .u32) Z ao2 cap3 u0.abs) (hs7 : SlR (tyInt .u32) Z ao5 cap6 u2) (hM0 : Mem B [] w0 Z0 ((.row b1 [.bool u0.neg, .slice ao2 u0.abs.length cap3] 69) :: Rr) Z w) (hZ : Z.on w) {K : BInt → Prop} (hp : ggive_vc u0 u1 u2 K) : Calls Tryd.prog 83 #[pt b1 0, .bool u1, .slice ao5 u2.length cap6] w fun e w' => ∃ (r : BInt) (ao1001 : Option Addr) (cap1002 : Nat) (Z' : Fz), e = .returned (pt b1 0) ∧ K r ∧ Fz.le Z Z' ∧ SlR (tyInt .u32) Z' ao1001 cap1002 r.abs ∧ Mem B [] w0 Z0 ((.row b1 [.bool r.neg, .slice ao1001 r.abs.length cap1002] 69) :: Rr) Z' w' := by
 refine enter0 Tryd.func83 rfl rfl (by kernel_rfl) ?_; intro u d; have m := Fz.le.refl Z
 have f := hp (hs4.small); clear hp
 have n := f (hs7.small); clear f
 refine sqB d hM0 [] [] [] ?_; intro v g; clear d
 refine sqH ?_; intro o h
 refine bt g hM0 4 [] [] [(8, .slice ao5 u2.length cap6), (10, pt b1 1)] ?_; intro x a; clear g
 refine sx a hM0 0 [.bool u0.neg, .slice ao5 u2.length cap6] 1 ?_; intro p i; clear hM0
 have b : Mem B [] w0 Z0 ((.row b1 [.bool u0.neg, .slice ao5 u2.length cap6] 69) :: Rr) Z p := i; clear i
 refine nlH (h _ _ ?_); clear h o
 refine sqH ?_; intro q j
 refine bt a b 9 [] [] [(17, .bool (u1 && (decide ((u2.length : Int) > 0)))), (19, pt b1 0)] ?_; intro y c; clear a
 refine sx c b 0 [.bool (u1 && (decide ((u2.length : Int) > 0))), .slice ao5 u2.length cap6] 0 ?_; intro s k; clear b
 have l : Mem B [] w0 Z0 ((.row b1 [.bool (u1 && (decide ((u2.length : Int) > 0))), .slice ao5 u2.length cap6] 69) :: Rr) Z s := k; clear k
 refine nlH (j _ _ ?_); clear j q
 refine sqB c l [] [] [(6, pt b1 0)] ?_; intro z t; clear c
 refine wp_ret ?_
 refine ra1 t (pt b1 0) ?_
 exact ⟨(⟨u1 && (decide ((u2.length : Int) > 0)), u2⟩ : BInt), ao5, cap6, Z, rfl, n, m, hs7, l.keep (List.Sublist.cons_cons _ (List.Sublist.refl _))⟩
theorem ggive_fun (u0 : BInt) (u1 : Bool) (u2 : List Int) (b1 : Nat) (ao2 : Option Addr) (cap3 : Nat) (ao5 : Option Addr) (cap6 : Nat) (B : Nat) (w0 : World) (Z0 : Fz) (Rr : List Res) (Z : Fz) (w : World) (hs4 : SlR (tyInt .u32) Z ao2 cap3 u0.abs) (hs7 : SlR (tyInt .u32) Z ao5 cap6 u2) (hM0 : Mem B [] w0 Z0 ((.row b1 [.bool u0.neg, .slice ao2 u0.abs.length cap3] 69) :: Rr) Z w) (hZ : Z.on w) : Calls Tryd.prog 83 #[pt b1 0, .bool u1, .slice ao5 u2.length cap6] w fun e w' => ∃ (ao1001 : Option Addr) (cap1002 : Nat) (Z' : Fz), e = .returned (pt b1 0) ∧ Fz.le Z Z' ∧ SlR (tyInt .u32) Z' ao1001 cap1002 (ggive u0 u1 u2).abs ∧ Mem B [] w0 Z0 ((.row b1 [.bool (ggive u0 u1 u2).neg, .slice ao1001 (ggive u0 u1 u2).abs.length cap1002] 69) :: Rr) Z' w' :=
  (ggive_walk u0 u1 u2 b1 ao2 cap3 ao5 cap6 B w0 Z0 Rr Z w hs4 hs7 hM0 hZ (ggive_ok u0 u1 u2)).mono fun _ _ ⟨r, h0, h1, h2, he, hk, f0, f1, hm⟩ => by subst hk; exact ⟨h0, h1, h2, he, f0, f1, hm⟩

theorem ggiveA_walk (u0 : BRat) (u1 : Bool) (u2 : List Int) (b1 : Nat) (ao2 : Option Addr) (cap3 : Nat) (ao5 : Option Addr) (cap6 : Nat) (ao8 : Option Addr) (cap9 : Nat) (B : Nat) (w0 : World) (Z0 : Fz) (Rr : List Res) (Z : Fz) (w : World) (hs4 : SlR (tyInt .u32) Z ao2 cap3 u0.a.abs) (hs7 : SlR (tyInt .u32) Z ao5 cap6 u0.b.abs) (hs10 : SlR (tyInt .u32) Z ao8 cap9 u2) (hM0 : Mem B [] w0 Z0 ((.row b1 [.bool u0.a.neg, .slice ao2 u0.a.abs.length cap3, .bool u0.b.neg, .slice ao5 u0.b.abs.length cap6] 71) :: Rr) Z w) (hZ : Z.on w) {K : BRat → Prop} (hp : ggiveA_vc u0 u1 u2 K) : Calls Tryd.prog 83 #[pt b1 0, .bool u1, .slice ao8 u2.length cap9] w fun e w' => ∃ (r : BRat) (ao1001 : Option Addr) (cap1002 : Nat) (ao1004 : Option Addr) (cap1005 : Nat) (Z' : Fz), e = .returned (pt b1 0) ∧ K r ∧ Fz.le Z Z' ∧ SlR (tyInt .u32) Z' ao1001 cap1002 r.a.abs ∧ SlR (tyInt .u32) Z' ao1004 cap1005 r.b.abs ∧ Mem B [] w0 Z0 ((.row b1 [.bool r.a.neg, .slice ao1001 r.a.abs.length cap1002, .bool r.b.neg, .slice ao1004 r.b.abs.length cap1005] 71) :: Rr) Z' w' := by
 refine enter0 Tryd.func83 rfl rfl (by kernel_rfl) ?_; intro y g; have p := Fz.le.refl Z
 have h := hp (hs4.small); clear hp
 have i := h (hs7.small); clear h
 have q := i (hs10.small); clear i
 refine sqB g hM0 [] [] [] ?_; intro z j; clear g
 refine sqH ?_; intro s k
 refine bt j hM0 4 [] [] [(8, .slice ao8 u2.length cap9), (10, pt b1 1)] ?_; intro A c; clear j
 refine sx c hM0 0 [.bool u0.a.neg, .slice ao8 u2.length cap9, .bool u0.b.neg, .slice ao5 u0.b.abs.length cap6] 1 ?_; intro t l; clear hM0
 have d : Mem B [] w0 Z0 ((.row b1 [.bool u0.a.neg, .slice ao8 u2.length cap9, .bool u0.b.neg, .slice ao5 u0.b.abs.length cap6] 71) :: Rr) Z t := l; clear l
 refine nlH (k _ _ ?_); clear k s
 refine sqH ?_; intro u m
 refine bt c d 9 [] [] [(17, .bool (u1 && (decide ((u2.length : Int) > 0)))), (19, pt b1 0)] ?_; intro C f; clear c
 refine sx f d 0 [.bool (u1 && (decide ((u2.length : Int) > 0))), .slice ao8 u2.length cap9, .bool u0.b.neg, .slice ao5 u0.b.abs.length cap6] 0 ?_; intro v n; clear d
 have o : Mem B [] w0 Z0 ((.row b1 [.bool (u1 && (decide ((u2.length : Int) > 0))), .slice ao8 u2.length cap9, .bool u0.b.neg, .slice ao5 u0.b.abs.length cap6] 71) :: Rr) Z v := n; clear n
 refine nlH (m _ _ ?_); clear m u
 refine sqB f o [] [] [(6, pt b1 0)] ?_; intro D x; clear f
 refine wp_ret ?_
 refine ra1 x (pt b1 0) ?_
 exact ⟨(⟨(⟨u1 && (decide ((u2.length : Int) > 0)), u2⟩ : BInt), u0.b⟩ : BRat), ao8, cap9, ao5, cap6, Z, rfl, q, p, hs10, hs7, o.keep (List.Sublist.cons_cons _ (List.Sublist.refl _))⟩
theorem ggiveA_fun (u0 : BRat) (u1 : Bool) (u2 : List Int) (b1 : Nat) (ao2 : Option Addr) (cap3 : Nat) (ao5 : Option Addr) (cap6 : Nat) (ao8 : Option Addr) (cap9 : Nat) (B : Nat) (w0 : World) (Z0 : Fz) (Rr : List Res) (Z : Fz) (w : World) (hs4 : SlR (tyInt .u32) Z ao2 cap3 u0.a.abs) (hs7 : SlR (tyInt .u32) Z ao5 cap6 u0.b.abs) (hs10 : SlR (tyInt .u32) Z ao8 cap9 u2) (hM0 : Mem B [] w0 Z0 ((.row b1 [.bool u0.a.neg, .slice ao2 u0.a.abs.length cap3, .bool u0.b.neg, .slice ao5 u0.b.abs.length cap6] 71) :: Rr) Z w) (hZ : Z.on w) : Calls Tryd.prog 83 #[pt b1 0, .bool u1, .slice ao8 u2.length cap9] w fun e w' => ∃ (ao1001 : Option Addr) (cap1002 : Nat) (ao1004 : Option Addr) (cap1005 : Nat) (Z' : Fz), e = .returned (pt b1 0) ∧ Fz.le Z Z' ∧ SlR (tyInt .u32) Z' ao1001 cap1002 (ggiveA u0 u1 u2).a.abs ∧ SlR (tyInt .u32) Z' ao1004 cap1005 (ggiveA u0 u1 u2).b.abs ∧ Mem B [] w0 Z0 ((.row b1 [.bool (ggiveA u0 u1 u2).a.neg, .slice ao1001 (ggiveA u0 u1 u2).a.abs.length cap1002, .bool (ggiveA u0 u1 u2).b.neg, .slice ao1004 (ggiveA u0 u1 u2).b.abs.length cap1005] 71) :: Rr) Z' w' :=
  (ggiveA_walk u0 u1 u2 b1 ao2 cap3 ao5 cap6 ao8 cap9 B w0 Z0 Rr Z w hs4 hs7 hs10 hM0 hZ (ggiveA_ok u0 u1 u2)).mono fun _ _ ⟨r, h0, h1, h2, h3, h4, he, hk, f0, f1, f2, hm⟩ => by subst hk; exact ⟨h0, h1, h2, h3, h4, he, f0, f1, f2, hm⟩

theorem ggiveB_walk (u0 : BRat) (u1 : Bool) (u2 : List Int) (b1 : Nat) (ao2 : Option Addr) (cap3 : Nat) (ao5 : Option Addr) (cap6 : Nat) (ao8 : Option Addr) (cap9 : Nat) (B : Nat) (w0 : World) (Z0 : Fz) (Rr : List Res) (Z : Fz) (w : World) (hs4 : SlR (tyInt .u32) Z ao2 cap3 u0.a.abs) (hs7 : SlR (tyInt .u32) Z ao5 cap6 u0.b.abs) (hs10 : SlR (tyInt .u32) Z ao8 cap9 u2) (hM0 : Mem B [] w0 Z0 ((.row b1 [.bool u0.a.neg, .slice ao2 u0.a.abs.length cap3, .bool u0.b.neg, .slice ao5 u0.b.abs.length cap6] 71) :: Rr) Z w) (hZ : Z.on w) {K : BRat → Prop} (hp : ggiveB_vc u0 u1 u2 K) : Calls Tryd.prog 83 #[pt b1 2, .bool u1, .slice ao8 u2.length cap9] w fun e w' => ∃ (r : BRat) (ao1001 : Option Addr) (cap1002 : Nat) (ao1004 : Option Addr) (cap1005 : Nat) (Z' : Fz), e = .returned (pt b1 2) ∧ K r ∧ Fz.le Z Z' ∧ SlR (tyInt .u32) Z' ao1001 cap1002 r.a.abs ∧ SlR (tyInt .u32) Z' ao1004 cap1005 r.b.abs ∧ Mem B [] w0 Z0 ((.row b1 [.bool r.a.neg, .slice ao1001 r.a.abs.length cap1002, .bool r.b.neg, .slice ao1004 r.b.abs.length cap1005] 71) :: Rr) Z' w' := by
 refine enter0 Tryd.func83 rfl rfl (by kernel_rfl) ?_; intro y g; have p := Fz.le.refl Z
 have h := hp (hs4.small); clear hp
 have i := h (hs7.small); clear h
 have q := i (hs10.small); clear i
 refine sqB g hM0 [] [] [] ?_; intro z j; clear g
 refine sqH ?_; intro s k
 refine bt j hM0 4 [] [] [(8, .slice ao8 u2.length cap9), (10, pt b1 3)] ?_; intro A c; clear j
 refine sx c hM0 0 [.bool u0.a.neg, .slice ao2 u0.a.abs.length cap3, .bool u0.b.neg, .slice ao8 u2.length cap9] 3 ?_; intro t l; clear hM0
 have d : Mem B [] w0 Z0 ((.row b1 [.bool u0.a.neg, .slice ao2 u0.a.abs.length cap3, .bool u0.b.neg, .slice ao8 u2.length cap9] 71) :: Rr) Z t := l; clear l
 refine nlH (k _ _ ?_); clear k s
 refine sqH ?_; intro u m
 refine bt c d 9 [] [] [(17, .bool (u1 && (decide ((u2.length : Int) > 0)))), (19, pt b1 2)] ?_; intro C f; clear c
 refine sx f d 0 [.bool u0.a.neg, .slice ao2 u0.a.abs.length cap3, .bool (u1 && (decide ((u2.length : Int) > 0))), .slice ao8 u2.length cap9] 2 ?_; intro v n; clear d
 have o : Mem B [] w0 Z0 ((.row b1 [.bool u0.a.neg, .slice ao2 u0.a.abs.length cap3, .bool (u1 && (decide ((u2.length : Int) > 0))), .slice ao8 u2.length cap9] 71) :: Rr) Z v := n; clear n
 refine nlH (m _ _ ?_); clear m u
 refine sqB f o [] [] [(6, pt b1 2)] ?_; intro D x; clear f
 refine wp_ret ?_
 refine ra1 x (pt b1 2) ?_
 exact ⟨(⟨u0.a, (⟨u1 && (decide ((u2.length : Int) > 0)), u2⟩ : BInt)⟩ : BRat), ao2, cap3, ao8, cap9, Z, rfl, q, p, hs4, hs10, o.keep (List.Sublist.cons_cons _ (List.Sublist.refl _))⟩
theorem ggiveB_fun (u0 : BRat) (u1 : Bool) (u2 : List Int) (b1 : Nat) (ao2 : Option Addr) (cap3 : Nat) (ao5 : Option Addr) (cap6 : Nat) (ao8 : Option Addr) (cap9 : Nat) (B : Nat) (w0 : World) (Z0 : Fz) (Rr : List Res) (Z : Fz) (w : World) (hs4 : SlR (tyInt .u32) Z ao2 cap3 u0.a.abs) (hs7 : SlR (tyInt .u32) Z ao5 cap6 u0.b.abs) (hs10 : SlR (tyInt .u32) Z ao8 cap9 u2) (hM0 : Mem B [] w0 Z0 ((.row b1 [.bool u0.a.neg, .slice ao2 u0.a.abs.length cap3, .bool u0.b.neg, .slice ao5 u0.b.abs.length cap6] 71) :: Rr) Z w) (hZ : Z.on w) : Calls Tryd.prog 83 #[pt b1 2, .bool u1, .slice ao8 u2.length cap9] w fun e w' => ∃ (ao1001 : Option Addr) (cap1002 : Nat) (ao1004 : Option Addr) (cap1005 : Nat) (Z' : Fz), e = .returned (pt b1 2) ∧ Fz.le Z Z' ∧ SlR (tyInt .u32) Z' ao1001 cap1002 (ggiveB u0 u1 u2).a.abs ∧ SlR (tyInt .u32) Z' ao1004 cap1005 (ggiveB u0 u1 u2).b.abs ∧ Mem B [] w0 Z0 ((.row b1 [.bool (ggiveB u0 u1 u2).a.neg, .slice ao1001 (ggiveB u0 u1 u2).a.abs.length cap1002, .bool (ggiveB u0 u1 u2).b.neg, .slice ao1004 (ggiveB u0 u1 u2).b.abs.length cap1005] 71) :: Rr) Z' w' :=
  (ggiveB_walk u0 u1 u2 b1 ao2 cap3 ao5 cap6 ao8 cap9 B w0 Z0 Rr Z w hs4 hs7 hs10 hM0 hZ (ggiveB_ok u0 u1 u2)).mono fun _ _ ⟨r, h0, h1, h2, h3, h4, he, hk, f0, f1, f2, hm⟩ => by subst hk; exact ⟨h0, h1, h2, h3, h4, he, f0, f1, f2, hm⟩

theorem gnew_walk (u0 : Int)  (Z : Fz) (w : World)  (hZ : Z.on w) {K : BInt → Prop} (hp : gnew_vc u0 K) : Calls Tryd.prog 52 #[i6 u0] w fun e w' => ∃ (r : BInt) (b1001 : Nat) (ao1002 : Option Addr) (cap1003 : Nat) (Z' : Fz), e = .returned (pt b1001 0) ∧ K r ∧ SlR (tyInt .u32) Z' ao1002 cap1003 r.abs ∧ Mem w.heap.size [] w Z [.row b1001 [.bool r.neg, .slice ao1002 r.abs.length cap1003] 69] Z' w' := by
 refine enter0 Tryd.func52 rfl rfl (by kernel_rfl) ?_; intro a0 z; have l := Mem.start w Z hZ; have c := Fz.le.refl Z
 refine sqB z l [] [] [] ?_; intro a2 A; clear z
 refine sqH ?_; intro B i
 refine nw A l pb [.bool false, .slice none 0 0] 69 ?_; intro a a6 aP C b; clear A l
 refine s1 C 4 (i6 u0) ?_; intro aQ m; clear C
 refine ck m 82 #[pt a 0, i6 u0] ?_
 refine enter0 Tryd.func82 rfl rfl (by kernel_rfl) ?_; intro au D
 have E : Fr 18 [] [⟨0, [], pt a 0⟩, ⟨1, [], i6 u0⟩] au := D.reg; clear D
 refine sqB E b [] [] [] ?_; intro aR F; clear E
 refine sqB F b [] [] [(5, y6 (wu64 u0))] ?_; intro aS G; clear F
 refine wp_seq ?_
 refine sqB G b [] [] [(9, .bool (decide (u0 < 0)))] ?_; intro aT f; clear G
 refine cd f (t := decide (u0 < 0)) (by kernel_rfl) (fun n => ?_) (fun n => ?_)
 ·
  have av := hp.1 n; clear hp
  refine rgB f b [] [] [(5, y6 (wu64 (0 - (wu64 u0))))] ?_; intro aU H; clear f
  refine thn ?_
  refine sqH ?_; intro aw I
  refine bt H b 4 [] [] [(12, pt a 0), (14, .bool (decide (u0 < 0))), (15, y6 (wu64 (0 - (wu64 u0))))] ?_; intro aV J; clear H
  obtain ⟨ax, L⟩ := av
  refine ck J 110 #[y6 (wu64 (0 - (wu64 u0)))] ?_
  refine (gwords_fun (wu64 (0 - (wu64 u0))) ax _ _ b.fz).mono ?_; rintro _ ay ⟨M, N, az, rfl, j, hm⟩; refine ⟨_, rfl, ?_⟩; intro aW O; have P := b.callZ hm; have aA := hm.ext.le; clear hm b J
  replace c := Fz.le.trans c aA
  have o : Mem w.heap.size [] w Z [.row a [.bool false, .slice none 0 0] 69] az ay := P; clear P
  have Q := L (j.small); clear L
  refine ck O 83 #[pt a 0, .bool (decide (u0 < 0)), .slice M (gwordsS (wu64 (0 - (wu64 u0)))).length N] ?_
  obtain ⟨g, aB, R⟩ := hxq Q; clear Q
  have d := ggive_fun (⟨false, []⟩ : BInt) (decide (u0 < 0)) (gwordsS (wu64 (0 - (wu64 u0)))) a none 0 M N _ _ _ _ _ _ (SlR.nil _ _) j o o.fz; rw [aB] at d; refine d.mono ?_; clear d; rintro _ S ⟨p, q, s, rfl, T, U, hm⟩; refine ⟨_, rfl, ?_⟩; intro aX V; have W := hm; clear hm o O
  replace j := j.mono T
  replace c := Fz.le.trans c T
  have X : Mem w.heap.size [] w Z [.row a [.bool g.neg, .slice p g.abs.length q] 69] s S := W; clear W
  have aC := R (U.small); clear R
  refine s1 V 4 (pt a 0) ?_; intro aY Y; clear V
  refine nlH (I _ _ ?_); clear I aw
  refine wp_ret ?_
  refine ra1 Y (pt a 0) ?_
  refine ⟨_, rfl, ?_⟩; intro aZ aa; clear m Y
  refine s1 aa 2 (pt a 0) ?_; intro a1 aD; clear aa
  have aE : Mem w.heap.size [] w Z [.row a [.bool g.neg, .slice p g.abs.length q] 69] s S := X; clear X
  refine nlH (i _ _ ?_); clear i B
  refine wp_ret ?_
  refine ra1 aD (pt a 0) ?_
  exact ⟨g, a, p, q, s, rfl, aC, U, aE.keep (List.Sublist.cons_cons _ (List.Sublist.slnil))⟩
 have aF := hp.2 n; clear hp
 refine wp_skip ?_
 refine thn ?_
 refine sqH ?_; intro aG ab
 refine bt f b 4 [] [] [(12, pt a 0), (14, .bool (decide (u0 < 0))), (15, y6 (wu64 u0))] ?_; intro a3 ac; clear f
 obtain ⟨aH, ad⟩ := aF
 refine ck ac 110 #[y6 (wu64 u0)] ?_
 refine (gwords_fun (wu64 u0) aH _ _ b.fz).mono ?_; rintro _ aI ⟨ae, af, aJ, rfl, k, hm⟩; refine ⟨_, rfl, ?_⟩; intro a4 ag; have ah := b.callZ hm; have aK := hm.ext.le; clear hm b ac
 replace c := Fz.le.trans c aK
 have u : Mem w.heap.size [] w Z [.row a [.bool false, .slice none 0 0] 69] aJ aI := ah; clear ah
 have ai := ad (k.small); clear ad
 refine ck ag 83 #[pt a 0, .bool (decide (u0 < 0)), .slice ae (gwordsS (wu64 u0)).length af] ?_
 obtain ⟨h, aL, aj⟩ := hxq ai; clear ai
 have d := ggive_fun (⟨false, []⟩ : BInt) (decide (u0 < 0)) (gwordsS (wu64 u0)) a none 0 ae af _ _ _ _ _ _ (SlR.nil _ _) k u u.fz; rw [aL] at d; refine d.mono ?_; clear d; rintro _ ak ⟨v, x, y, rfl, al, am, hm⟩; refine ⟨_, rfl, ?_⟩; intro a5 an; have ao := hm; clear hm u ag
 replace k := k.mono al
 replace c := Fz.le.trans c al
 have ap : Mem w.heap.size [] w Z [.row a [.bool h.neg, .slice v h.abs.length x] 69] y ak := ao; clear ao
 have aM := aj (am.small); clear aj
 refine s1 an 4 (pt a 0) ?_; intro a7 aq; clear an
 refine nlH (ab _ _ ?_); clear ab aG
 refine wp_ret ?_
 refine ra1 aq (pt a 0) ?_
 refine ⟨_, rfl, ?_⟩; intro a8 ar; clear m aq
 refine s1 ar 2 (pt a 0) ?_; intro a9 aN; clear ar
 have aO : Mem w.heap.size [] w Z [.row a [.bool h.neg, .slice v h.abs.length x] 69] y ak := ap; clear ap
 refine nlH (i _ _ ?_); clear i B
 refine wp_ret ?_
 refine ra1 aN (pt a 0) ?_
 exact ⟨h, a, v, x, y, rfl, aM, am, aO.keep (List.Sublist.cons_cons _ (List.Sublist.slnil))⟩

theorem rden_walk (u0 : BRat) (b1 : Nat) (ao2 : Option Addr) (cap3 : Nat) (ao5 : Option Addr) (cap6 : Nat) (B : Nat) (w0 : World) (Z0 : Fz) (Rr : List Res) (Z : Fz) (w : World) (hs4 : SlR (tyInt .u32) Z ao2 cap3 u0.a.abs) (hs7 : SlR (tyInt .u32) Z ao5 cap6 u0.b.abs) (hM0 : Mem B [] w0 Z0 ((.row b1 [.bool u0.a.neg, .slice ao2 u0.a.abs.length cap3, .bool u0.b.neg, .slice ao5 u0.b.abs.length cap6] 71) :: Rr) Z w) (hZ : Z.on w) {K : BRat → Prop} (hp : rden_vc u0 K) : Calls Tryd.prog 78 #[pt b1 0] w fun e w' => ∃ (r : BRat) (ao1001 : Option Addr) (cap1002 : Nat) (ao1004 : Option Addr) (cap1005 : Nat) (Z' : Fz), e = .returned (pt b1 2) ∧ K r ∧ Fz.le Z Z' ∧ SlR (tyInt .u32) Z' ao1001 cap1002 r.a.abs ∧ SlR (tyInt .u32) Z' ao1004 cap1005 r.b.abs ∧ Mem B [] w0 Z0 ((.row b1 [.bool r.a.neg, .slice ao1001 r.a.abs.length cap1002, .bool r.b.neg, .slice ao1004 r.b.abs.length cap1005] 71) :: Rr) Z' w' := by
 refine enter0 Tryd.func78 rfl rfl (by kernel_rfl) ?_; intro m d; have h := Fz.le.refl Z
 have f := hp (hs4.small); clear hp
 have i := f (hs7.small); clear f
 refine sqB d hM0 [] [] [] ?_; intro n g; clear d
 refine wp_seq ?_
 refine sqB g hM0 [0] [] [(9, .bool ((u0.b.abs.length : Int) == 0))] ?_; intro o c; clear g
 obtain ⟨j, k⟩ := i
 refine cn c j ?_
 refine wp_skip ?_
 refine thn ?_
 refine sqB c hM0 [] [] [(2, pt b1 2)] ?_; intro p l; clear c
 refine wp_ret ?_
 refine ra1 l (pt b1 2) ?_
 exact ⟨u0, ao2, cap3, ao5, cap6, Z, rfl, k, h, hs4, hs7, hM0.keep (List.Sublist.cons_cons _ (List.Sublist.refl _))⟩

theorem gnegA_walk (u0 : BRat) (b1 : Nat) (ao2 : Option Addr) (cap3 : Nat) (ao5 : Option Addr) (cap6 : Nat) (B : Nat) (w0 : World) (Z0 : Fz) (Rr : List Res) (Z : Fz) (w : World) (hs4 : SlR (tyInt .u32) Z ao2 cap3 u0.a.abs) (hs7 : SlR (tyInt .u32) Z ao5 cap6 u0.b.abs) (hM0 : Mem B [] w0 Z0 ((.row b1 [.bool u0.a.neg, .slice ao2 u0.a.abs.length cap3, .bool u0.b.neg, .slice ao5 u0.b.abs.length cap6] 71) :: Rr) Z w) (hZ : Z.on w) {K : BRat → Prop} (hp : gnegA_vc u0 K) : Calls Tryd.prog 55 #[pt b1 0, pt b1 0] w fun e w' => ∃ (r : BRat) (ao1001 : Option Addr) (cap1002 : Nat) (ao1004 : Option Addr) (cap1005 : Nat) (Z' : Fz), e = .returned (pt b1 0) ∧ K r ∧ Fz.le Z Z' ∧ SlR (tyInt .u32) Z' ao1001 cap1002 r.a.abs ∧ SlR (tyInt .u32) Z' ao1004 cap1005 r.b.abs ∧ Mem B [] w0 Z0 ((.row b1 [.bool r.a.neg, .slice ao1001 r.a.abs.length cap1002, .bool r.b.neg, .slice ao1004 r.b.abs.length cap1005] 71) :: Rr) Z' w' := by
 refine enter0 Tryd.func55 rfl rfl (by kernel_rfl) ?_; intro a0 n; have c := Fz.le.refl Z
 have o := hp (hs4.small); clear hp
 have M := o (hs7.small); clear o
 refine sqB n hM0 [] [] [] ?_; intro N p; clear n
 have q : Fr 17 [] [⟨0, [], pt b1 0⟩, ⟨1, [], pt b1 0⟩] N := p.reg; clear p
 refine wp_seq (rgS mixed hM0 [(0, true), (1, true), (2, true), (3, true), (4, true), (5, true), (6, true), (7, true), (8, true), (9, true), (10, false), (11, false), (12, false)] [11, 12] [0] [.row b1 (e71Nc u0 ao2 cap3 ao5 cap6) 71] ?_)
 intro O s ac i; clear hM0
 have d := Fz.le.refl Z
 refine cS q 10 [0, 0] [] [(5, pt b1 0), (10, .bool (!u0.a.neg)), (14, .slice ao2 u0.a.abs.length cap3)] ?_; intro ad t; clear q
 refine eS rfl ?_; intro P u
 obtain ⟨Q, R⟩ := M
 refine ck t 88 #[.slice ao2 u0.a.abs.length cap3] ?_
 refine (gtwin_fun u0.a.abs Q ao2 cap3 _ _ hs4 i.fz).mono ?_; rintro _ v ⟨j, k, S, rfl, hm⟩; refine ⟨_, rfl, ?_⟩; intro ae x; have y := i.callZ hm; have g := hm.ext.le; clear hm i t
 replace hs4 := hs4.mono g
 replace hs7 := hs7.mono g
 replace d := d.mono g
 replace c := Fz.le.trans c g
 have z : Mem B [] w0 Z0 ((.own (tyInt .u32) 109 j k (gtwinS u0.a.abs)) :: (.row b1 (e71Nc u0 ao2 cap3 ao5 cap6) 71) :: Rr) S v := y; clear y
 refine nl (qnI (u _ _ (z.cst d [1]) ?_)); clear u P
 refine eL rfl ?_; intro T A
 obtain ⟨U, h, C, l⟩ := z.freeze 0 rfl
 replace hs4 := hs4.mono h
 replace hs7 := hs7.mono h
 replace d := d.mono h
 replace c := Fz.le.trans c h
 have m : Mem B [] w0 Z0 ((.row b1 (e71Nc u0 ao2 cap3 ao5 cap6) 71) :: Rr) U v := C; clear C
 refine ck x 83 #[pt b1 0, .bool (!u0.a.neg), .slice j (gtwinS u0.a.abs).length k] ?_
 refine (ggiveA_fun u0 (!u0.a.neg) (gtwinS u0.a.abs) b1 ao2 cap3 ao5 cap6 j k _ _ _ _ _ _ hs4 hs7 l m m.fz).mono ?_; rintro _ V ⟨D, E, F, G, H, rfl, f, W, X, hm⟩; refine ⟨_, rfl, ?_⟩; intro af I; have J := hm; clear hm m x
 replace hs4 := hs4.mono f
 replace hs7 := hs7.mono f
 replace d := d.mono f
 replace l := l.mono f
 replace c := Fz.le.trans c f
 have Y : Mem B [] w0 Z0 ((.row b1 (e71Nc (ggiveA u0 (!u0.a.neg) (gtwinS u0.a.abs)) D E F G) 71) :: Rr) H V := J; clear J
 refine nl (qnI (A _ _ ?_)); clear A T
 refine eL rfl ?_; intro aa L
 refine s1 I 4 (pt b1 0) ?_; intro ag ab; clear I
 refine nl (qnI (L _ _ ?_)); clear L aa
 refine nS (s _ _ ?_); clear s O
 refine thn ?_
 refine wp_ret ?_
 refine ra1 ab (pt b1 0) ?_
 exact ⟨(ggiveA u0 (!u0.a.neg) (gtwinS u0.a.abs)), D, E, F, G, H, rfl, R, c, W, X, Y.keep (List.Sublist.cons_cons _ (List.Sublist.refl _))⟩

theorem gnegB_walk (u0 : BRat) (b1 : Nat) (ao2 : Option Addr) (cap3 : Nat) (ao5 : Option Addr) (cap6 : Nat) (B : Nat) (w0 : World) (Z0 : Fz) (Rr : List Res) (Z : Fz) (w : World) (hs4 : SlR (tyInt .u32) Z ao2 cap3 u0.a.abs) (hs7 : SlR (tyInt .u32) Z ao5 cap6 u0.b.abs) (hM0 : Mem B [] w0 Z0 ((.row b1 [.bool u0.a.neg, .slice ao2 u0.a.abs.length cap3, .bool u0.b.neg, .slice ao5 u0.b.abs.length cap6] 71) :: Rr) Z w) (hZ : Z.on w) {K : BRat → Prop} (hp : gnegB_vc u0 K) : Calls Tryd.prog 55 #[pt b1 2, pt b1 2] w fun e w' => ∃ (r : BRat) (ao1001 : Option Addr) (cap1002 : Nat) (ao1004 : Option Addr) (cap1005 : Nat) (Z' : Fz), e = .returned (pt b1 2) ∧ K r ∧ Fz.le Z Z' ∧ SlR (tyInt .u32) Z' ao1001 cap1002 r.a.abs ∧ SlR (tyInt .u32) Z' ao1004 cap1005 r.b.abs ∧ Mem B [] w0 Z0 ((.row b1 [.bool r.a.neg, .slice ao1001 r.a.abs.length cap1002, .bool r.b.neg, .slice ao1004 r.b.abs.length cap1005] 71) :: Rr) Z' w' := by
 refine enter0 Tryd.func55 rfl rfl (by kernel_rfl) ?_; intro a0 n; have c := Fz.le.refl Z
 have o := hp (hs4.small); clear hp
 have M := o (hs7.small); clear o
 refine sqB n hM0 [] [] [] ?_; intro N p; clear n
 have q : Fr 17 [] [⟨0, [], pt b1 2⟩, ⟨1, [], pt b1 2⟩] N := p.reg; clear p
 refine wp_seq (rgS mixed hM0 [(0, true), (1, true), (2, true), (3, true), (4, true), (5, true), (6, true), (7, true), (8, true), (9, true), (10, false), (11, false), (12, false)] [11, 12] [0] [.row b1 (e71Nc u0 ao2 cap3 ao5 cap6) 71] ?_)
 intro O s ac i; clear hM0
 have d := Fz.le.refl Z
 refine cS q 10 [0, 0] [] [(5, pt b1 2), (10, .bool (!u0.b.neg)), (14, .slice ao5 u0.b.abs.length cap6)] ?_; intro ad t; clear q
 refine eS rfl ?_; intro P u
 obtain ⟨Q, R⟩ := M
 refine ck t 88 #[.slice ao5 u0.b.abs.length cap6] ?_
 refine (gtwin_fun u0.b.abs Q ao5 cap6 _ _ hs7 i.fz).mono ?_; rintro _ v ⟨j, k, S, rfl, hm⟩; refine ⟨_, rfl, ?_⟩; intro ae x; have y := i.callZ hm; have g := hm.ext.le; clear hm i t
 replace hs4 := hs4.mono g
 replace hs7 := hs7.mono g
 replace d := d.mono g
 replace c := Fz.le.trans c g
 have z : Mem B [] w0 Z0 ((.own (tyInt .u32) 109 j k (gtwinS u0.b.abs)) :: (.row b1 (e71Nc u0 ao2 cap3 ao5 cap6) 71) :: Rr) S v := y; clear y
 refine nl (qnI (u _ _ (z.cst d [1]) ?_)); clear u P
 refine eL rfl ?_; intro T A
 obtain ⟨U, h, C, l⟩ := z.freeze 0 rfl
 replace hs4 := hs4.mono h
 replace hs7 := hs7.mono h
 replace d := d.mono h
 replace c := Fz.le.trans c h
 have m : Mem B [] w0 Z0 ((.row b1 (e71Nc u0 ao2 cap3 ao5 cap6) 71) :: Rr) U v := C; clear C
 refine ck x 83 #[pt b1 2, .bool (!u0.b.neg), .slice j (gtwinS u0.b.abs).length k] ?_
 refine (ggiveB_fun u0 (!u0.b.neg) (gtwinS u0.b.abs) b1 ao2 cap3 ao5 cap6 j k _ _ _ _ _ _ hs4 hs7 l m m.fz).mono ?_; rintro _ V ⟨D, E, F, G, H, rfl, f, W, X, hm⟩; refine ⟨_, rfl, ?_⟩; intro af I; have J := hm; clear hm m x
 replace hs4 := hs4.mono f
 replace hs7 := hs7.mono f
 replace d := d.mono f
 replace l := l.mono f
 replace c := Fz.le.trans c f
 have Y : Mem B [] w0 Z0 ((.row b1 (e71Nc (ggiveB u0 (!u0.b.neg) (gtwinS u0.b.abs)) D E F G) 71) :: Rr) H V := J; clear J
 refine nl (qnI (A _ _ ?_)); clear A T
 refine eL rfl ?_; intro aa L
 refine s1 I 4 (pt b1 2) ?_; intro ag ab; clear I
 refine nl (qnI (L _ _ ?_)); clear L aa
 refine nS (s _ _ ?_); clear s O
 refine thn ?_
 refine wp_ret ?_
 refine ra1 ab (pt b1 2) ?_
 exact ⟨(ggiveB u0 (!u0.b.neg) (gtwinS u0.b.abs)), D, E, F, G, H, rfl, R, c, W, X, Y.keep (List.Sublist.cons_cons _ (List.Sublist.refl _))⟩

end Go.Proofs.YtdndfbamhnchfaaDoor
