/- The walks, made by program: each call does what its pure predicate says. -/
import Derived.Test.YtdndfbamhnchfaaPE
import Derived.Test.YtdndfbamhnchfaaWD
import Derived.Shelf.Lay
import Derived.Ground.NamesProg
import Derived.Shelf.Sort.Plain
import Derived.Shelf.Slices.In.SortNone
namespace Go.Proofs
open Go.Shelf
def Try.lays189_ren : Go.Shelf.Ren := ⟨fun | 189 => 37 | 125 => 61 | 257 => 60 | 128 => 82 | 129 => 83 | 294 => 73 | 295 => 74 | 296 => 75 | 297 => 76 | 298 => 77 | 299 => 78 | 216 => 79 | 300 => 80 | 301 => 81 | 328 => 89 | 329 => 90 | 330 => 91 | 331 => 92 | 332 => 93 | 215 => 62 | 343 => 94 | n => n, fun | 28 => 33 | 3 => 3 | 46 => 106 | 0 => 0 | 51 => 112 | 53 => 115 | 4 => 4 | 183 => 119 | 182 => 118 | 131 => 124 | 5 => 5 | 9 => 9 | 218 => 133 | 222 => 137 | 228 => 139 | 229 => 97 | n => n, fun | n => n⟩
theorem Try.lays189 : Go.Proofs.Lays.n189 Try.prog Try.lays189_ren := {
  mixed := by kernel_rfl
  f125 := Try.func61.trans (congrArg some (by kernel_rfl))
  f128 := Try.func82.trans (congrArg some (by kernel_rfl))
  f129 := Try.func83.trans (congrArg some (by kernel_rfl))
  f189 := Try.func37.trans (congrArg some (by kernel_rfl))
  f215 := Try.func62.trans (congrArg some (by kernel_rfl))
  f216 := Try.func79.trans (congrArg some (by kernel_rfl))
  f257 := Try.func60.trans (congrArg some (by kernel_rfl))
  f294 := Try.func73.trans (congrArg some (by kernel_rfl))
  f295 := Try.func74.trans (congrArg some (by kernel_rfl))
  f296 := Try.func75.trans (congrArg some (by kernel_rfl))
  f297 := Try.func76.trans (congrArg some (by kernel_rfl))
  f298 := Try.func77.trans (congrArg some (by kernel_rfl))
  f299 := Try.func78.trans (congrArg some (by kernel_rfl))
  f300 := Try.func80.trans (congrArg some (by kernel_rfl))
  f301 := Try.func81.trans (congrArg some (by kernel_rfl))
  f328 := Try.func89.trans (congrArg some (by kernel_rfl))
  f329 := Try.func90.trans (congrArg some (by kernel_rfl))
  f330 := Try.func91.trans (congrArg some (by kernel_rfl))
  f331 := Try.func92.trans (congrArg some (by kernel_rfl))
  f332 := Try.func93.trans (congrArg some (by kernel_rfl))
  f343 := Try.func94.trans (congrArg some (by kernel_rfl))
  t0 := Try.underlying0
  a0 := Try.isAgg0
  z0 := Try.sizeOf0
  v0 := Try.zeroValue0
  t3 := Try.underlying3
  a3 := Try.isAgg3
  z3 := Try.sizeOf3
  v3 := Try.zeroValue3
  t4 := Try.underlying4
  a4 := Try.isAgg4
  z4 := Try.sizeOf4
  v4 := Try.zeroValue4
  t5 := Try.underlying5
  a5 := Try.isAgg5
  z5 := Try.sizeOf5
  v5 := Try.zeroValue5
  t9 := Try.underlying9
  a9 := Try.isAgg9
  z9 := Try.sizeOf9
  v9 := Try.zeroValue9
  t28 := Try.underlying33
  a28 := Try.isAgg33
  z28 := Try.sizeOf33
  v28 := Try.zeroValue33
  t46 := Try.underlying106
  a46 := Try.isAgg106
  z46 := Try.sizeOf106
  v46 := Try.zeroValue106
  t51 := Try.underlying112
  a51 := Try.isAgg112
  z51 := Try.sizeOf112
  v51 := Try.zeroValue112
  t53 := Try.underlying115
  a53 := Try.isAgg115
  z53 := Try.sizeOf115
  v53 := Try.zeroValue115
  t131 := Try.underlying124
  a131 := Try.isAgg124
  z131 := Try.sizeOf124
  v131 := Try.zeroValue124
  t182 := Try.underlying118
  a182 := Try.isAgg118
  z182 := Try.sizeOf118
  v182 := Try.zeroValue118
  t183 := Try.underlying119
  a183 := Try.isAgg119
  z183 := Try.sizeOf119
  v183 := Try.zeroValue119
  t218 := Try.underlying133
  a218 := Try.isAgg133
  z218 := Try.sizeOf133
  v218 := Try.zeroValue133
  t222 := Try.underlying137
  a222 := Try.isAgg137
  z222 := Try.sizeOf137
  v222 := Try.zeroValue137
  t228 := Try.underlying139
  a228 := Try.isAgg139
  z228 := Try.sizeOf139
  v228 := Try.zeroValue139
  t229 := Try.underlying97
  a229 := Try.isAgg97
  z229 := Try.sizeOf97
  v229 := Try.zeroValue97 }
end Go.Proofs
set_option linter.unusedVariables false
set_option linter.unusedSimpArgs false
namespace Go.Proofs.Ytdndfbamhnchfaa
open Go.Sy Go.RowKit
theorem swrite_fun (u0 : Signal) (u1 : List Int) (u2 : Int) (u3 : Int) (hpre : isBytes u1) (ao1 : Option Addr) (cap2 : Nat) (Z : Fz) (w : World) (hs3 : SlR (tyInt .u8) Z ao1 cap2 u1) (hZ : Z.on w) : Calls Try.prog 7 #[.agg #[str u0.Name, .int .i64 u0.Start, .int .i64 u0.Size, .bool u0.Back, .bool u0.Signed, .int .i64 u0.Mul, .int .i64 u0.Div, .int .i64 u0.Add, .int .i64 u0.Key], .slice ao1 u1.length cap2, .int .i64 u2, .int .i64 u3] w fun e w' => ∃ (ao1001 : Option Addr) (cap1002 : Nat) (Z' : Fz), e = .returned (.tuple #[.slice ao1001 (swriteS u0 u1 u2 u3).1.length cap1002, .int .i64 (swriteS u0 u1 u2 u3).2]) ∧ Mem w.heap.size [] w Z [.own (tyInt .u8) 5 ao1001 cap1002 (swriteS u0 u1 u2 u3).1] Z' w' :=
  (swrite_walk u0 u1 u2 u3 ao1 cap2 Z w hs3 hZ (swrite_ok u0 u1 u2 u3 hpre)).mono fun _ _ ⟨r, h0, h1, h2, he, hk, hm⟩ => by subst hk; exact ⟨h0, h1, h2, he, hm⟩

theorem sread_fun (u0 : Signal) (u1 : List Int) (hpre : isBytes u1) (ao1 : Option Addr) (cap2 : Nat) (Z : Fz) (w : World) (hs3 : SlR (tyInt .u8) Z ao1 cap2 u1) (hZ : Z.on w) : Calls Try.prog 9 #[.agg #[str u0.Name, .int .i64 u0.Start, .int .i64 u0.Size, .bool u0.Back, .bool u0.Signed, .int .i64 u0.Mul, .int .i64 u0.Div, .int .i64 u0.Add, .int .i64 u0.Key], .slice ao1 u1.length cap2] w fun e w' => e = .returned (.tuple #[.int .i64 ((sreadS u0 u1).1), .agg #[str (((sreadS u0 u1).2.1).Name), .int .i64 (((sreadS u0 u1).2.1).Num), .int .i64 (((sreadS u0 u1).2.1).Den)], .int .i64 ((sreadS u0 u1).2.2)]) ∧ Below w.heap.size w w' :=
  (sread_walk u0 u1 ao1 cap2 Z w hs3 hZ (sread_ok u0 u1 hpre)).mono fun _ _ ⟨r, he, hk, hb⟩ => ⟨by subst hk; exact he, hb⟩

open Go Go.Sort
theorem sort_block (w : World) (blk n : Nat) (d : Array Int) (os : Array Obj) (cur : Array Value) (e : TypeId) (fr : Nat × Nat) (h : w.heap[blk]? = some (.cells cur e fr)) : (grow (putRow (Value.int .i64) (Go.Sort.ahead w n) blk 0 d) os).heap[blk]? = some (.cells (putCells (Value.int .i64) 0 d cur) e fr) := by
  have hl := (Array.getElem?_eq_some_iff.1 h).1
  have hl' : blk < (w.heap.modify blk (onCells (putCells (Value.int .i64) 0 d))).size := by rw [Array.size_modify]; exact hl
  show (w.heap.modify blk (onCells (putCells (Value.int .i64) 0 d)) ++ os)[blk]? = _
  rw [Array.getElem?_append, if_pos hl', Array.getElem?_modify, if_pos rfl, h]
  rfl
theorem sort_grown (w : World) (blk n : Nat) (d : Array Int) (os : Array Obj) : w.grownBy (grow (putRow (Value.int .i64) (Go.Sort.ahead w n) blk 0 d) os) (some blk) := by
  refine ⟨rfl, rfl, rfl, ?_, fun k hk hne => ?_⟩
  · show w.heap.size ≤ (w.heap.modify blk _ ++ os).size
    rw [Array.size_append, Array.size_modify]
    omega
  · have hl' : k < (w.heap.modify blk (onCells (putCells (Value.int .i64) 0 d))).size := by rw [Array.size_modify]; exact hk
    show (w.heap.modify blk (onCells (putCells (Value.int .i64) 0 d)) ++ os)[k]? = _
    rw [Array.getElem?_append, if_pos hl', Array.getElem?_modify, if_neg (fun h => hne (by rw [h]))]


theorem sort_cells (d : List Int) (cur : Array Value) (n cap : Nat) (hc : cur.size = cap) (hd : d.length ≤ cap) : ((putCells (Value.int .i64) 0 d.toArray cur).toList.take d.length) = d.map (Value.int .i64) := by
  apply List.ext_getElem?
  intro k
  rw [List.getElem?_take, List.getElem?_map]
  by_cases hk : k < d.length
  · rw [if_pos hk, List.getElem?_eq_getElem hk, Array.getElem?_toList]
    unfold putCells
    rw [Array.getElem?_mapIdx, Array.getElem?_eq_getElem (by omega), Option.map_some, Option.map_some, if_pos ⟨by omega, by simpa using hk⟩]
    congr 1
    simp [hk]
  · rw [if_neg hk, List.getElem?_eq_none (by omega)]
    rfl
theorem sort_mem {B : Nat} {U : List Nat} {w0 : World} {Z0 : Fz} {R : List Res} {Z : Fz} {w : World} (hM : Mem B U w0 Z0 R Z w) (i : Nat) {e : TypeId} {ad : Addr} {cap : Nat} {xs : List Int} (hR : R[i]? = some (.own (tyInt .i64) e (some ad) cap xs)) (n : Nat) (os : Array Obj) (ys : List Int) (hl : ys.length = xs.length) : Mem B U w0 Z0 (R.set i (.own (tyInt .i64) e (some ad) cap ys)) Z (grow (putRow (Value.int .i64) (Go.Sort.ahead w n) ad.block 0 ys.toArray) os) := by
  obtain ⟨h1, h2, cells, ho, hr⟩ := hM.res _ (List.mem_of_getElem? hR)
  rcases ho.2 with ⟨hv, _⟩ | ⟨g, cap', cur, hv, hb, hg, hn, hc, hs, ht⟩
  · cases hv
  · cases hv
    refine hM.upd hR (sort_grown w _ n _ os) _ ⟨h1, by rw [hl]; exact h2, ys.map (Value.int .i64), ⟨by simp [tyInt], .inr ⟨g, cap, _, by rw [hl], hb, sort_block w g n _ os cur e _ hg, by rw [hl]; exact hn, hc, ?_, ?_⟩⟩, ?_⟩ (fun b hb => .inl hb)
    · unfold putCells; rw [Array.size_mapIdx]; exact hs
    · have := sort_cells ys cur n (cap * 1) (by simpa [tyInt] using hs) (by omega)
      simpa [tyInt] using this
    · refine ⟨by simp [tyInt], fun j x hx => ?_⟩
      show List.take 1 (List.drop (j * 1) (ys.map (Value.int .i64))) = [Value.int .i64 x]
      have hj := (List.getElem?_eq_some_iff.1 hx).1
      rw [Nat.mul_one, List.drop_eq_getElem_cons (by rw [List.length_map]; exact hj), List.take_succ_cons, List.take_zero, List.getElem_map, (List.getElem?_eq_some_iff.1 hx).2]
theorem sort_frozen (w : World) (g j : Nat) (cur : Array Value) (e : TypeId) (hg : w.heap[g]? = some (.cells cur e (0, 0))) : w.frozen? ⟨g, j, none⟩ = false := by
  simp [World.frozen?, hg]
theorem sort_holds {B : Nat} {U : List Nat} {Z : Fz} {w : World} {e : TypeId} {ad : Addr} {cap : Nat} {xs : List Int} (h : (Res.own (tyInt .i64) e (some ad) cap xs).holds B U Z w) : ad = ⟨ad.block, 0, none⟩ ∧ ad.block < w.heap.size ∧ Holds (Value.int .i64) w ad.block 0 xs.toArray := by
  obtain ⟨h1, h2, cells, ho, hr⟩ := h
  rcases ho.2 with ⟨hv, _⟩ | ⟨g, cap', cur, hv, hb, hg, hn, hc, hs, ht⟩
  · cases hv
  · cases hv
    refine ⟨rfl, (Array.getElem?_eq_some_iff.1 hg).1, fun j hj => ⟨?_, sort_frozen w g _ cur e hg⟩⟩
    have hj : j < xs.length := by simpa using hj
    have h3 := hr.2 j xs[j] (List.getElem?_eq_getElem hj)
    have h3 : List.take 1 (List.drop (j * 1) cells) = [Value.int .i64 xs[j]] := h3
    have h4 : cells[j]? = some (Value.int .i64 xs[j]) := by
      have h5 := congrArg (fun l => l[0]?) h3
      simpa using h5
    rw [← ht, List.getElem?_take] at h4
    split at h4
    · show w.cell? ⟨g, 0 + j, none⟩ = _
      rw [cell_of_row w g _ cur e (0, 0) hg, Nat.zero_add]
      rw [Array.getElem?_toList] at h4
      rw [h4]
      simp [hj]
    · cases h4
theorem isort_at {P : Program} {fid : Nat} (u0 : List Int) (ao1 : Option Addr) (cap2 : Nat) (B : Nat) (w0 : World) (Z0 : Fz) (Rr : List Res) (Z : Fz) (w : World) {e : TypeId} (hM0 : Mem B [] w0 Z0 ((.own (tyInt .i64) e ao1 cap2 u0) :: Rr) Z w)
    (h1 : ∀ (blk off cap : Nat) (zs : List Int) (w : World) (hH : Holds (Value.int .i64) w blk off zs.toArray) (hblk : blk < w.heap.size) (hsz : zs.length < 4611686018427387904), Calls P fid #[.slice (some ⟨blk, off, none⟩) zs.length cap] w fun e w' => e = .returned (.tuple #[]) ∧ ∃ n os, w' = grow (putRow (Value.int .i64) (Go.Sort.ahead w n) blk off (zs.mergeSort fun x y => decide (x ≤ y)).toArray) os)
    (h2 : ∀ (p : Option Addr) (cap : Nat) (w : World), Calls P fid #[.slice p 0 cap] w fun e w' => e = .returned (.tuple #[]) ∧ w' = w) :
    Calls P fid #[.slice ao1 u0.length cap2] w fun e9 w' => ∃ (Z' : Fz), e9 = .returned (.tuple #[]) ∧ Fz.le Z Z' ∧ ((isortS u0).length = u0.length) ∧ Mem B [] w0 Z0 ((.own (tyInt .i64) e ao1 cap2 (isortS u0)) :: Rr) Z' w' := by
  have hr := hM0.res _ List.mem_cons_self
  cases ao1 with
  | none =>
    obtain ⟨_, _, cells, ho, _⟩ := hr
    rcases ho.2 with ⟨hv, hn⟩ | ⟨g, cap', cur, hv, _⟩
    · have : u0 = [] := List.eq_nil_of_length_eq_zero hn
      subst this
      have e0 : isortS [] = [] := by unfold isortS; exact List.mergeSort_nil
      rw [e0]
      exact (h2 none cap2 w).mono fun _ _ ⟨ha, hb⟩ => by subst hb; exact ⟨Z, ha, Fz.le.refl Z, rfl, hM0⟩
    · cases hv
  | some ad =>
    obtain ⟨ha, hb, hc⟩ := sort_holds hr
    have hsm : u0.length < 4611686018427387904 := by
      have := hr.2.1
      have e : lim = 140737488355328 := rfl
      omega
    have hcall := h1 ad.block 0 cap2 u0 w hc hb hsm
    rw [← ha] at hcall
    refine hcall.mono ?_
    rintro _ _ ⟨he, n, os, rfl⟩
    exact ⟨Z, he, Fz.le.refl Z, isort_len u0, sort_mem hM0 0 rfl n os (isortS u0) (isort_len u0)⟩
theorem isort_fun (u0 : List Int) (ao1 : Option Addr) (cap2 : Nat) (B : Nat) (w0 : World) (Z0 : Fz) (Rr : List Res) (Z : Fz) (w : World) (hM0 : Mem B [] w0 Z0 ((.own (tyInt .i64) 3 ao1 cap2 u0) :: Rr) Z w) (hZ : Z.on w) : Calls Try.prog 37 #[.slice ao1 u0.length cap2] w fun e w' => ∃ (Z' : Fz), e = .returned (.tuple #[]) ∧ Fz.le Z Z' ∧ ((isortS u0).length = u0.length) ∧ Mem B [] w0 Z0 ((.own (tyInt .i64) 3 ao1 cap2 (isortS u0)) :: Rr) Z' w' :=
  isort_at u0 ao1 cap2 B w0 Z0 Rr Z w hM0 (fun blk off cap zs w hH hb hs => Any.slices_Sort_int Try.lays189 blk off cap zs w hH hb hs) (fun p cap w => Any.slices_Sort_int_none Try.lays189 p cap w)

set_option maxRecDepth 100000 in
set_option maxHeartbeats 0 in
theorem icmp_walk (u0 : Int) (u1 : Int)  (Z : Fz) (w : World)  (hZ : Z.on w) {K : Int → Prop} (hp : icmp_vc u0 u1 K) : Calls Try.prog 38 #[.int .i64 u0, .int .i64 u1] w fun e w' => ∃ r : Int, e = .returned (.int .i64 r) ∧ K r ∧ Below w.heap.size w w' := by
 refine enter0 Try.func38 rfl rfl (by kernel_rfl) ?_; intro a0 hF0; have hM0 := Mem.start w Z hZ; have hle0 := Fz.le.refl Z
 refine sqH ?_; intro hQ1Q hQ1
 refine s1 hF0 4 (.int .i64 0) ?_; intro a2 hF3; clear hF0
 refine nlH (hQ1 _ _ ?_); clear hQ1 hQ1Q
 refine sqH ?_; intro hQ4Q hQ4
 refine s1 hF3 7 (.int .i64 u0) ?_; intro a5 hF6; clear hF3
 refine fcl hF6 hM0 (.bool (iisnan u0)) 62 #[.int .i64 u0] (nog rfl _) rfl (by kernel_rfl) (fun _ => by kernel_rfl) (iisnan_fun u0 _ _ hM0.fz) ?_; intro a7 wd9 hF8 hM10; clear hF6 hM0
 refine s1 hF8 5 (.bool (iisnan u0)) ?_; intro a11 hF12; clear hF8
 refine nlH (hQ4 _ _ ?_); clear hQ4 hQ4Q
 refine sqH ?_; intro hQ13Q hQ13
 refine s1 hF12 9 (.int .i64 u1) ?_; intro a14 hF15; clear hF12
 refine fcl hF15 hM10 (.bool (iisnan u1)) 62 #[.int .i64 u1] (nog rfl _) rfl (by kernel_rfl) (fun _ => by kernel_rfl) (iisnan_fun u1 _ _ hM10.fz) ?_; intro a16 wd18 hF17 hM19; clear hF15 hM10
 refine s1 hF17 6 (.bool (iisnan u1)) ?_; intro a20 hF21; clear hF17
 refine nlH (hQ13 _ _ ?_); clear hQ13 hQ13Q
 refine wp_seq ?_
 refine sqH ?_; intro hQ22Q hQ22
 refine s1 hF21 11 (.bool (iisnan u0)) ?_; intro a23 hF24; clear hF21
 refine nlH (hQ22 _ _ ?_); clear hQ22 hQ22Q
 refine cd hF24 (t := (iisnan u0)) (by kernel_rfl) (fun hb25 => ?_) (fun hb25 => ?_)
 · -- yes
  have hp26 := hp.1 hb25; clear hp
  refine wp_seq ?_
  refine sqH ?_; intro hQ27Q hQ27
  refine s1 hF24 12 (.bool (iisnan u1)) ?_; intro a28 hF29; clear hF24
  refine nlH (hQ27 _ _ ?_); clear hQ27 hQ27Q
  refine cd hF29 (t := (iisnan u1)) (by kernel_rfl) (fun hb30 => ?_) (fun hb30 => ?_)
  · -- yes
   have hp31 := hp26.1 hb30; clear hp26
   refine sqH ?_; intro hQ32Q hQ32
   refine s1 hF29 4 (.int .i64 0) ?_; intro a33 hF34; clear hF29
   refine nlH (hQ32 _ _ ?_); clear hQ32 hQ32Q
   refine wp_ret ?_
   refine thr ?_
   refine thr ?_
   refine rt (fn := Try.f38) (v := .int .i64 0) hF34 (re1 hF34 (fn := Try.f38) rfl (by kernel_rfl)) ?_
   exact ⟨0, rfl, hp31, hM19.below⟩
  · -- no
   have hp35 := hp26.2 hb30; clear hp26
   refine wp_skip ?_
   refine thn ?_
   refine sqH ?_; intro hQ36Q hQ36
   refine s1 hF29 4 (.int .i64 (-1)) ?_; intro a37 hF38; clear hF29
   refine nlH (hQ36 _ _ ?_); clear hQ36 hQ36Q
   refine wp_ret ?_
   refine thr ?_
   refine rt (fn := Try.f38) (v := .int .i64 (-1)) hF38 (re1 hF38 (fn := Try.f38) rfl (by kernel_rfl)) ?_
   exact ⟨-1, rfl, hp35, hM19.below⟩
 · -- no
  have hp39 := hp.2 hb25; clear hp
  refine wp_skip ?_
  refine thn ?_
  refine wp_seq ?_
  refine sqH ?_; intro hQ40Q hQ40
  refine s1 hF24 13 (.bool (iisnan u1)) ?_; intro a41 hF42; clear hF24
  refine nlH (hQ40 _ _ ?_); clear hQ40 hQ40Q
  refine cd hF42 (t := (iisnan u1)) (by kernel_rfl) (fun hb43 => ?_) (fun hb43 => ?_)
  · -- yes
   have hp44 := hp39.1 hb43; clear hp39
   refine sqH ?_; intro hQ45Q hQ45
   refine s1 hF42 4 (.int .i64 1) ?_; intro a46 hF47; clear hF42
   refine nlH (hQ45 _ _ ?_); clear hQ45 hQ45Q
   refine wp_ret ?_
   refine thr ?_
   refine rt (fn := Try.f38) (v := .int .i64 1) hF47 (re1 hF47 (fn := Try.f38) rfl (by kernel_rfl)) ?_
   exact ⟨1, rfl, hp44, hM19.below⟩
  · -- no
   have hp48 := hp39.2 hb43; clear hp39
   refine wp_skip ?_
   refine thn ?_
   refine wp_seq ?_
   refine sqH ?_; intro hQ49Q hQ49
   refine s1 hF42 14 (.int .i64 u0) ?_; intro a50 hF51; clear hF42
   refine s1 hF51 15 (.int .i64 u1) ?_; intro a52 hF53; clear hF51
   refine s1 hF53 16 (.bool (decide (u0 < u1))) ?_; intro a54 hF55; clear hF53
   refine nlH (hQ49 _ _ ?_); clear hQ49 hQ49Q
   refine cd hF55 (t := decide (u0 < u1)) (by kernel_rfl) (fun hb56 => ?_) (fun hb56 => ?_)
   · -- yes
    have hp57 := hp48.1 hb56; clear hp48
    refine sqH ?_; intro hQ58Q hQ58
    refine s1 hF55 4 (.int .i64 (-1)) ?_; intro a59 hF60; clear hF55
    refine nlH (hQ58 _ _ ?_); clear hQ58 hQ58Q
    refine wp_ret ?_
    refine thr ?_
    refine rt (fn := Try.f38) (v := .int .i64 (-1)) hF60 (re1 hF60 (fn := Try.f38) rfl (by kernel_rfl)) ?_
    exact ⟨-1, rfl, hp57, hM19.below⟩
   · -- no
    have hp61 := hp48.2 hb56; clear hp48
    refine wp_skip ?_
    refine thn ?_
    refine wp_seq ?_
    refine sqH ?_; intro hQ62Q hQ62
    refine s1 hF55 17 (.int .i64 u0) ?_; intro a63 hF64; clear hF55
    refine s1 hF64 18 (.int .i64 u1) ?_; intro a65 hF66; clear hF64
    refine s1 hF66 19 (.bool (decide (u0 > u1))) ?_; intro a67 hF68; clear hF66
    refine nlH (hQ62 _ _ ?_); clear hQ62 hQ62Q
    refine cd hF68 (t := decide (u0 > u1)) (by kernel_rfl) (fun hb69 => ?_) (fun hb69 => ?_)
    · -- yes
     have hp70 := hp61.1 hb69; clear hp61
     have hF71 : Fr 20 [] [] a67 := hF68.region (by kernel_rfl) (by kernel_rfl); clear hF68
     refine sqH ?_; intro hQ72Q hQ72
     refine s1 hF71 4 (.int .i64 1) ?_; intro a73 hF74; clear hF71
     refine nlH (hQ72 _ _ ?_); clear hQ72 hQ72Q
     refine wp_ret ?_
     refine thr ?_
     refine rt (fn := Try.f38) (v := .int .i64 1) hF74 (re1 hF74 (fn := Try.f38) rfl (by kernel_rfl)) ?_
     exact ⟨1, rfl, hp70, hM19.below⟩
    · -- no
     have hp75 := hp61.2 hb69; clear hp61
     refine wp_skip ?_
     refine thn ?_
     have hF76 : Fr 20 [] [] a67 := hF68.region (by kernel_rfl) (by kernel_rfl); clear hF68
     refine sqH ?_; intro hQ77Q hQ77
     refine s1 hF76 4 (.int .i64 0) ?_; intro a78 hF79; clear hF76
     refine nlH (hQ77 _ _ ?_); clear hQ77 hQ77Q
     refine wp_ret ?_
     refine rt (fn := Try.f38) (v := .int .i64 0) hF79 (re1 hF79 (fn := Try.f38) rfl (by kernel_rfl)) ?_
     exact ⟨0, rfl, hp75, hM19.below⟩

end Go.Proofs.Ytdndfbamhnchfaa
