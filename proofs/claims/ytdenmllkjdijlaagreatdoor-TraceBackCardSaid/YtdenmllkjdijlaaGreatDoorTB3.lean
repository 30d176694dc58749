/- Texts put together (pure ones, or walks made by program). -/
import Derived.Test.YtdenmllkjdijlaaGreatDoorTB0
import Derived.Test.YtdenmllkjdijlaaGreatDoorTB1
import Derived.Test.YtdenmllkjdijlaaGreatDoorTB2
import Derived.WalkKit
import Derived.Deep.QuietTactic
import Derived.BigQuiet
import Derived.Shelf.SlSortCmp.NoneTotal
import Derived.Shelf.SlGeneric
import Derived.Ground.SlsfProg
import Derived.Stop.LaidErr
namespace Go.Proofs
open Go.Shelf
def Tryz.laysF19_ren : Go.Shelf.Ren := ⟨fun | 6 => 19 | 15 => 23 | 14 => 41 | 28 => 53 | 29 => 54 | 20 => 81 | 21 => 82 | 22 => 83 | 23 => 84 | 24 => 85 | 25 => 86 | 26 => 87 | 27 => 88 | 46 => 125 | 47 => 91 | 48 => 92 | 49 => 126 | 50 => 127 | 57 => 148 | n => n, fun | 22 => 51 | 24 => 53 | 25 => 58 | 3 => 3 | 39 => 62 | 0 => 0 | 53 => 97 | 55 => 99 | 4 => 4 | 46 => 90 | 45 => 89 | 50 => 65 | 5 => 5 | 9 => 9 | 66 => 129 | 70 => 133 | 76 => 158 | 77 => 159 | n => n, fun | n => n⟩
theorem Tryz.laysF19 : Go.Proofs.SlLaysF.n6 Tryz.prog Tryz.laysF19_ren := {
  mixed := by kernel_rfl
  f6 := ⟨Tryz.f19.name, by decide, Tryz.func19.trans (congrArg some (by kernel_rfl))⟩
  f14 := ⟨Tryz.f41.name, by decide, Tryz.func41.trans (congrArg some (by kernel_rfl))⟩
  f15 := Tryz.func23.trans (congrArg some (by kernel_rfl))
  f20 := ⟨Tryz.f81.name, by decide, Tryz.func81.trans (congrArg some (by kernel_rfl))⟩
  f21 := ⟨Tryz.f82.name, by decide, Tryz.func82.trans (congrArg some (by kernel_rfl))⟩
  f22 := ⟨Tryz.f83.name, by decide, Tryz.func83.trans (congrArg some (by kernel_rfl))⟩
  f23 := ⟨Tryz.f84.name, by decide, Tryz.func84.trans (congrArg some (by kernel_rfl))⟩
  f24 := ⟨Tryz.f85.name, by decide, Tryz.func85.trans (congrArg some (by kernel_rfl))⟩
  f25 := ⟨Tryz.f86.name, by decide, Tryz.func86.trans (congrArg some (by kernel_rfl))⟩
  f26 := ⟨Tryz.f87.name, by decide, Tryz.func87.trans (congrArg some (by kernel_rfl))⟩
  f27 := ⟨Tryz.f88.name, by decide, Tryz.func88.trans (congrArg some (by kernel_rfl))⟩
  f28 := Tryz.func53.trans (congrArg some (by kernel_rfl))
  f29 := Tryz.func54.trans (congrArg some (by kernel_rfl))
  f46 := ⟨Tryz.f125.name, by decide, Tryz.func125.trans (congrArg some (by kernel_rfl))⟩
  f47 := Tryz.func91.trans (congrArg some (by kernel_rfl))
  f48 := Tryz.func92.trans (congrArg some (by kernel_rfl))
  f49 := ⟨Tryz.f126.name, by decide, Tryz.func126.trans (congrArg some (by kernel_rfl))⟩
  f50 := ⟨Tryz.f127.name, by decide, Tryz.func127.trans (congrArg some (by kernel_rfl))⟩
  f57 := ⟨Tryz.f148.name, by decide, Tryz.func148.trans (congrArg some (by kernel_rfl))⟩
  t0 := Tryz.underlying0
  a0 := Tryz.isAgg0
  z0 := Tryz.sizeOf0
  v0 := Tryz.zeroValue0
  t3 := Tryz.underlying3
  a3 := Tryz.isAgg3
  z3 := Tryz.sizeOf3
  v3 := Tryz.zeroValue3
  t4 := Tryz.underlying4
  a4 := Tryz.isAgg4
  z4 := Tryz.sizeOf4
  v4 := Tryz.zeroValue4
  t5 := Tryz.underlying5
  a5 := Tryz.isAgg5
  z5 := Tryz.sizeOf5
  v5 := Tryz.zeroValue5
  t9 := Tryz.underlying9
  a9 := Tryz.isAgg9
  z9 := Tryz.sizeOf9
  v9 := Tryz.zeroValue9
  t22 := Tryz.underlying51
  a22 := Tryz.isAgg51
  z22 := Tryz.sizeOf51
  v22 := Tryz.zeroValue51
  a24 := Tryz.isAgg53
  z24 := Tryz.sizeOf53
  t25 := Tryz.underlying58
  a25 := Tryz.isAgg58
  z25 := Tryz.sizeOf58
  v25 := Tryz.zeroValue58
  t39 := Tryz.underlying62
  a39 := Tryz.isAgg62
  z39 := Tryz.sizeOf62
  v39 := Tryz.zeroValue62
  t45 := Tryz.underlying89
  a45 := Tryz.isAgg89
  z45 := Tryz.sizeOf89
  v45 := Tryz.zeroValue89
  t46 := Tryz.underlying90
  a46 := Tryz.isAgg90
  z46 := Tryz.sizeOf90
  v46 := Tryz.zeroValue90
  t50 := Tryz.underlying65
  a50 := Tryz.isAgg65
  z50 := Tryz.sizeOf65
  v50 := Tryz.zeroValue65
  t53 := Tryz.underlying97
  a53 := Tryz.isAgg97
  z53 := Tryz.sizeOf97
  v53 := Tryz.zeroValue97
  t55 := Tryz.underlying99
  a55 := Tryz.isAgg99
  z55 := Tryz.sizeOf99
  v55 := Tryz.zeroValue99
  t66 := Tryz.underlying129
  a66 := Tryz.isAgg129
  z66 := Tryz.sizeOf129
  v66 := Tryz.zeroValue129
  t70 := Tryz.underlying133
  a70 := Tryz.isAgg133
  z70 := Tryz.sizeOf133
  v70 := Tryz.zeroValue133
  t76 := Tryz.underlying158
  a76 := Tryz.isAgg158
  z76 := Tryz.sizeOf158
  v76 := Tryz.zeroValue158
  t77 := Tryz.underlying159
  a77 := Tryz.isAgg159
  z77 := Tryz.sizeOf159
  v77 := Tryz.zeroValue159 }
end Go.Proofs
set_option linter.unusedVariables false
set_option linter.unusedSimpArgs false
set_option linter.defProp false
set_option maxRecDepth 100000
set_option maxHeartbeats 0
namespace Go.Proofs.YtdenmllkjdijlaaGreatDoor
open Go.Sy Go.RowKit
abbrev e36Tb (X : Line) (A0 : Option Addr) (C0 : Nat) : List Value := [i6 X.Time, i6 X.Bus, i6 X.F.ID, .bool X.F.Long, .bool X.F.Fast, .bool X.F.Remote, i6 X.F.Size, .slice A0 X.F.Data.length C0]
abbrev e55Tb (X : Tally) : List Value := [i6 X.bus, i6 X.id, .bool X.long, i6 X.n, i6 X.first, i6 X.last, i6 X.low, i6 X.high]
def tidxf_fun (u0 : List Tally) (u1 : Tally → Bool) (ao1 : Option Addr) (cap2 : Nat) (fid4 : Nat) (caps5 : Array Value) (Z : Fz) (w : World) (hs3 : SlR (tyPt tyTally) Z ao1 cap2 u0) (hf6 : ∀ (Z1 : Fz) (w1 : World), Z.le Z1 → Z1.on w1 → ∀ (x0 : Tally) (xb0 xo0 : Nat), PtR Z1 xb0 xo0 [i6 x0.bus, i6 x0.id, .bool x0.long, i6 x0.n, i6 x0.first, i6 x0.last, i6 x0.low, i6 x0.high] → Calls Tryz.prog fid4 (#[pt xb0 xo0] ++ caps5) w1 fun e w2 => e = .returned (.bool (u1 x0)) ∧ Below w1.heap.size w1 w2) (hg7 : ∀ x w, Sem.run Tryz.prog (callFunc fid4 x) w = .ok (.enter fid4 x) w) (hZ : Z.on w) := f_ (tidxf_walk u0 u1 ao1 cap2 fid4 caps5 Z w hs3 hf6 hg7 hZ (tidxf_ok u0 u1))
open Go.Sort in
theorem tsrt_swo {xs : List Tally} (_ : tsrtPre xs) : Go.Sort.SWO (Go.Proofs.ltOf fun (x y : {x // x ∈ xs}) => tcf x.1 y.1) := by
  -- by hand
  refine ⟨fun x => ?_, fun x y z h k => ?_, fun x y z h k => ?_⟩
  · show decide (tcf x.1 x.1 < 0) = false
    rw [tcf_self]; rfl
  · unfold Go.Proofs.ltOf at *
    rw [decide_eq_true_eq] at *
    rw [tcf_lt] at *
    cases ha : x.1.long <;> cases hb : y.1.long <;> cases hc : z.1.long <;> simp [ha, hb, hc] at * <;> omega
  · unfold Go.Proofs.ltOf at *
    rw [decide_eq_false_iff_not] at *
    exact (tcf_le _ _).1 (tcf_le_trans _ _ _ ((tcf_le _ _).2 k) ((tcf_le _ _).2 h))

section sortP
open Go.Sort Go.Shelf Go.RowKit
theorem srt_block {β : Type} [Inhabited β] (enc' : β → Value) (w : World) (blk n : Nat) (d : Array β) (os : Array Obj) (cur : Array Value) (e : TypeId) (fr : Nat × Nat) (h : w.heap[blk]? = some (.cells cur e fr)) : (sortWorld enc' w blk 0 n d os).heap[blk]? = some (.cells (putCells enc' 0 d cur) e fr) := by
  -- by hand
  have hl := (Array.getElem?_eq_some_iff.1 h).1
  have hl' : blk < (w.heap.modify blk (onCells (putCells enc' 0 d))).size := by rw [Array.size_modify]; exact hl
  show (w.heap.modify blk (onCells (putCells enc' 0 d)) ++ os)[blk]? = _
  rw [Array.getElem?_append, if_pos hl', Array.getElem?_modify, if_pos rfl, h]
  rfl
theorem srt_grown {β : Type} [Inhabited β] (enc' : β → Value) (w : World) (blk n : Nat) (d : Array β) (os : Array Obj) : w.grownBy (sortWorld enc' w blk 0 n d os) (some blk) := by
  -- by hand
  refine ⟨rfl, rfl, rfl, ?_, fun k hk hne => ?_⟩
  · show w.heap.size ≤ (w.heap.modify blk _ ++ os).size
    rw [Array.size_append, Array.size_modify]
    omega
  · have hl' : k < (w.heap.modify blk (onCells (putCells enc' 0 d))).size := by rw [Array.size_modify]; exact hk
    show (w.heap.modify blk (onCells (putCells enc' 0 d)) ++ os)[k]? = _
    rw [Array.getElem?_append, if_pos hl', Array.getElem?_modify, if_neg (fun h => hne (by rw [h]))]
theorem srt_cells {β : Type} [Inhabited β] (enc' : β → Value) (d : List β) (cur : Array Value) (cap : Nat) (hc : cur.size = cap) (hd : d.length ≤ cap) : ((putCells enc' 0 d.toArray cur).toList.take d.length) = d.map enc' := by
  -- by hand
  apply List.ext_getElem?
  intro k
  rw [List.getElem?_take, List.getElem?_map]
  by_cases hk : k < d.length
  · rw [if_pos hk, List.getElem?_eq_getElem hk, Array.getElem?_toList]
    unfold putCells
    rw [Array.getElem?_mapIdx, Array.getElem?_eq_getElem (by omega), Option.map_some, Option.map_some, if_pos ⟨by omega, by simpa using hk⟩]
    congr 1
    simp [hk]
  · rw [if_neg hk, List.getElem?_eq_none (by omega)]
    rfl
variable {α : Type} {enc : α → List Value} {t e : TypeId} {gp : List (Nat × α)} {xs : List α} {cf : α → α → Int} {P : Program} {B : Nat} {w0 w : World} {Z0 Z : Fz} {R : List Res}
theorem sortP {fid g : Nat} {cb : Array Value} {ao : Option Addr} {cap : Nat} (hM : Mem B [] w0 Z0 R Z w) (i : Nat) (hi : R[i]? = some (.own tyRp e ao cap (gp.map (·.1)))) (hx : gp.map (·.2) = xs)
    (hr : ∀ p ∈ gp, Res.row p.1 (enc p.2) t ∈ R) (hO : SWO (ltOf fun (x y : {x // x ∈ xs}) => cf x.1 y.1))
    (h1 : ∀ (β : Type) [Inhabited β] (enc' : β → Value) (_ : OneCell enc') (cf' : β → β → Int) (_ : SWO (ltOf cf')) (blk off cap : Nat) (d : Array β) (w : World), CmpLays1 P g cb enc' cf' blk off d.size w → Holds enc' w blk off d → blk < w.heap.size → d.size < 4611686018427387904 →
      Calls P fid #[.slice (some ⟨blk, off, none⟩) d.size cap, .func (.func g) #[] cb] w fun e w' => e = .returned (.tuple #[]) ∧ ∃ d' n os, PermIn 0 d.size d d' ∧ SortedIn (ltOf cf') 0 d.size d' ∧ w' = sortWorld enc' w blk off n d' os)
    (h2 : ∀ (p : Option Addr) (cap : Nat) (fv : Value) (w : World), Calls P fid #[.slice p 0 cap, fv] w fun e w' => e = .returned (.tuple #[]) ∧ w' = w)
    (hc : ∀ (W : World) (x y : α) (b c : Nat), x ∈ xs → y ∈ xs → W.heap[b]? = some (.cells (enc x).toArray t (0, 0)) → W.heap[c]? = some (.cells (enc y).toArray t (0, 0)) →
      Calls P g (#[.pointer (some ⟨b, 0, none⟩), .pointer (some ⟨c, 0, none⟩)] ++ cb) W fun e w' => e = .returned (.int .i64 (cf x y)) ∧ ∃ q os', w' = grow (W.drewN q) os') :
    Calls P fid #[.slice ao xs.length cap, .func (.func g) #[] cb] w fun e9 w' => e9 = .returned (.tuple #[]) ∧ ∃ gp' : List (Nat × α), gp.Perm gp' ∧ (gp'.map (·.2)).Pairwise (fun x y => ¬ cf y x < 0) ∧ Mem B [] w0 Z0 (R.set i (.own tyRp e ao cap (gp'.map (·.1)))) Z w' := by
  -- by hand
  have hres := hM.res _ (List.mem_of_getElem? hi)
  have hlen : xs.length = gp.length := by rw [← hx]; simp
  rw [hlen]
  have hset : R.set i (.own tyRp e ao cap (gp.map (·.1))) = R := set_self hi
  by_cases h0 : gp = []
  · subst h0
    exact (h2 ao cap _ w).mono fun _ _ ⟨ha, hb⟩ => ⟨ha, [], List.Perm.refl _, List.Pairwise.nil, by rw [hb, hset]; exact hM⟩
  obtain ⟨p0, hp0⟩ := List.exists_mem_of_ne_nil gp h0
  letI : Inhabited {p : Nat × α // p ∈ gp} := ⟨⟨p0, hp0⟩⟩
  obtain ⟨hn, hs, cells, ho, hrep⟩ := hres
  rcases ho.2 with ⟨_, hz⟩ | ⟨b, cap', cur, hv, hb, hg, hn2, hcap, hsz, htk⟩
  · exact absurd (by simpa using hz) h0
  cases hv
  have hbl := (Array.getElem?_eq_some_iff.1 hg).1
  have hfr : ∀ j, w.frozen? ⟨b, j, none⟩ = false := fun j => by simp [World.frozen?, hg]
  have hcell : ∀ j, ∀ h : j < gp.length, w.cell? ⟨b, j, none⟩ = some (.pointer (some ⟨gp[j].1, 0, none⟩)) := fun j h => by
    have h3 := own_elP (e := e) hM i hi j (b := gp[j].1) (q := gp[j].2) (List.getElem?_eq_getElem h)
    rwa [Nat.mul_one] at h3
  have hda : (gp.attach.toArray : Array {p : Nat × α // p ∈ gp}).size = gp.length := by simp
  have hH : Holds (fun p : {p : Nat × α // p ∈ gp} => Value.pointer (some ⟨p.1.1, 0, none⟩)) w b 0 gp.attach.toArray := by
    intro j hj
    rw [hda] at hj
    refine ⟨?_, hfr _⟩
    rw [Nat.zero_add, hcell j hj]
    congr 3
    simp [hj]
  have hmem : ∀ p : {p : Nat × α // p ∈ gp}, p.1.2 ∈ xs := fun p => hx ▸ List.mem_map.2 ⟨p.1, p.2, rfl⟩
  have hrow : ∀ p : {p : Nat × α // p ∈ gp}, w.heap[p.1.1]? = some (.cells (enc p.1.2).toArray t (0, 0)) ∧ p.1.1 ≠ b := fun p => by
    have hm := hr p.1 p.2
    refine ⟨(hM.res _ hm).2, fun h => ?_⟩
    have hP := List.pairwise_iff_getElem.1 hM.nd
    obtain ⟨j, hj, hje⟩ := List.mem_iff_getElem.1 hm
    obtain ⟨hi1, hi2⟩ := List.getElem?_eq_some_iff.1 hi
    have hne : j ≠ i := by rintro rfl; rw [hje] at hi2; cases hi2
    rcases Nat.lt_or_gt_of_ne hne with hl | hl
    · exact hP j i hj hi1 hl b (by rw [hje]; simp [Res.foot, h]) (by rw [hi2]; rfl)
    · exact hP i j hi1 hj hl b (by rw [hi2]; rfl) (by rw [hje]; simp [Res.foot, h])
  have hcmp : CmpLays1 P g cb (fun p : {p : Nat × α // p ∈ gp} => Value.pointer (some ⟨p.1.1, 0, none⟩)) (fun p q => cf p.1.2 q.1.2) b 0 (gp.attach.toArray : Array {p : Nat × α // p ∈ gp}).size w := by
    intro m os dk hs x y
    have hk : ∀ p : {p : Nat × α // p ∈ gp}, (sortWorld (fun p : {p : Nat × α // p ∈ gp} => Value.pointer (some ⟨p.1.1, 0, none⟩)) w b 0 m dk os).heap[p.1.1]? = some (.cells (enc p.1.2).toArray t (0, 0)) := fun p => by
      rw [(srt_grown _ w b m dk os).block _ (Array.getElem?_eq_some_iff.1 (hrow p).1).1 (fun h => (hrow p).2 (by simpa using h))]
      exact (hrow p).1
    exact hc _ _ _ _ _ (hmem x) (hmem y) (hk x) (hk y)
  have hO' : SWO (ltOf fun (p q : {p : Nat × α // p ∈ gp}) => cf p.1.2 q.1.2) :=
    ⟨fun p => hO.irrefl ⟨p.1.2, hmem p⟩, fun p q r => hO.trans ⟨p.1.2, hmem p⟩ ⟨q.1.2, hmem q⟩ ⟨r.1.2, hmem r⟩, fun p q r => hO.ntrans ⟨p.1.2, hmem p⟩ ⟨q.1.2, hmem q⟩ ⟨r.1.2, hmem r⟩⟩
  have hsmall : (gp.attach.toArray : Array {p : Nat × α // p ∈ gp}).size < 4611686018427387904 := by
    rw [hda]
    have h3 : gp.length ≤ lim := by simpa using hs
    have h4 : lim = 140737488355328 := rfl
    omega
  have hcall := h1 _ _ (fun _ => by simp [Value.oneCell']) _ hO' b 0 cap gp.attach.toArray w hcmp hH hbl hsmall
  rw [hda] at hcall
  refine hcall.mono ?_
  rintro _ _ ⟨he, d', n, os, hp, hsrt, rfl⟩
  have hd' : d'.size = gp.length := by rw [hp.1, hda]
  have hperm : d'.toList.Perm gp.attach := by
    have h3 := hp.2.2
    have e1 : d'.extract 0 gp.length = d' := by rw [← hd']; exact Array.extract_size
    have e2 : (gp.attach.toArray : Array {p : Nat × α // p ∈ gp}).extract 0 gp.length = gp.attach.toArray := by
      have := Array.extract_size (xs := (gp.attach.toArray : Array {p : Nat × α // p ∈ gp}))
      rwa [hda] at this
    rw [e1, e2] at h3
    simpa using h3
  refine ⟨he, d'.toList.map (·.1), ?_, ?_, ?_⟩
  · have h3 := hperm.map (·.1)
    rw [List.attach_map_subtype_val] at h3
    exact h3.symm
  · rw [List.map_map, List.pairwise_map, List.pairwise_iff_getElem]
    intro x y hx1 hy1 hxy
    have h3 := hsrt x y (Nat.zero_le _) hxy (by simpa [hd'] using hy1)
    have gx : d'[x]! = d'.toList[x] := by
      have : x < d'.size := by simpa using hx1
      simp [this]
    have gy : d'[y]! = d'.toList[y] := by
      have : y < d'.size := by simpa using hy1
      simp [this]
    rw [gx, gy] at h3
    simpa [ltOf] using h3
  · refine hM.upd hi (srt_grown _ w b n d' os) _ ⟨hn, by simpa [hd'] using hs, d'.toList.map fun p => Value.pointer (some ⟨p.1.1, 0, none⟩), ⟨by simp [tyRp], .inr ⟨b, cap, _, by simp [hd'], hb, srt_block _ w b n d' os cur e _ hg, by simpa [hd'] using hn2, hcap, ?_, ?_⟩⟩, ?_⟩ (fun _ h => .inl h)
    · unfold putCells; rw [Array.size_mapIdx]; exact hsz
    · have h3 := srt_cells (fun p : {p : Nat × α // p ∈ gp} => Value.pointer (some ⟨p.1.1, 0, none⟩)) d'.toList cur (cap * 1) (by simpa [tyRp] using hsz) (by simp [hd']; simpa using hn2)
      simpa [tyRp] using h3
    · refine ⟨by simp [tyRp], fun j x hj => ?_⟩
      show List.take 1 (List.drop (j * 1) (d'.toList.map fun p => Value.pointer (some ⟨p.1.1, 0, none⟩))) = [Value.pointer (some ⟨x, 0, none⟩)]
      rw [List.map_map, List.getElem?_map, Option.map_eq_some_iff] at hj
      obtain ⟨p, hp3, rfl⟩ := hj
      have hj2 := (List.getElem?_eq_some_iff.1 hp3).1
      rw [Nat.mul_one, List.drop_eq_getElem_cons (by rw [List.length_map]; exact hj2), List.take_succ_cons, List.take_zero, List.getElem_map, (List.getElem?_eq_some_iff.1 hp3).2]
      rfl
end sortP

open Go.Sort Go.Shelf in
theorem tsrt_cmp {xs : List Tally} (hpre : tsrtPre xs) (W : World) (x y : Tally) (b c : Nat) (hx : x ∈ xs) (hy : y ∈ xs) (h1 : W.heap[b]? = some (.cells (Tally.enc x).toArray 55 (0, 0))) (h2 : W.heap[c]? = some (.cells (Tally.enc y).toArray 55 (0, 0))) :
    Calls Tryz.prog 20 (#[.pointer (some ⟨b, 0, none⟩), .pointer (some ⟨c, 0, none⟩)] ++ #[]) W fun e w' => e = .returned (.int .i64 (tcf x y)) ∧ ∃ q os', w' = grow (W.drewN q) os' := by
  -- by hand
  have c1 : ∀ (k : Nat) (v : Value), (Tally.enc x)[k]? = some v → W.cell? ⟨b, k, none⟩ = some v := fun k v h => by rw [cell_of_row W b _ _ _ _ h1]; simpa using h
  have c2 : ∀ (k : Nat) (v : Value), (Tally.enc y)[k]? = some v → W.cell? ⟨c, k, none⟩ = some v := fun k v h => by rw [cell_of_row W c _ _ _ _ h2]; simpa using h
  have b0 := c1 0 _ rfl; have b1 := c1 1 _ rfl; have b2 := c1 2 _ rfl
  have d0 := c2 0 _ rfl; have d1 := c2 1 _ rfl; have d2 := c2 2 _ rfl
  clear c1 c2 h1 h2
  have hp := hpre x hx
  have hq := hpre y hy
  have hw : ∀ (a b : Int), (0 ≤ a ∧ a ≤ 536870911) → (0 ≤ b ∧ b ≤ 536870911) → wrap64 (a - b) = a - b := fun a b h k => by unfold wrap64; omega
  have hend : ∀ q : Nat, ∃ r os', W.drewN q = grow (W.drewN r) os' := fun q => ⟨q, #[], (grow_empty _).symm⟩
  by_cases k1 : (x.bus != y.bus) = true
  · have w1 := hw x.bus y.bus (by omega) (by omega)
    have e1 : tcf x y = x.bus - y.bus := by unfold tcf; rw [if_pos (by simpa using k1)]
    rw [e1]
    go_enter Tryz.func20, Tryz.ntmps20
    go_wp2
    go_quiet (fail)
    go_wp2
    go_quiet (fail)
    go_wp2
    go_ret
    refine ⟨rfl, ?_⟩
    try simp only [World.drewN_drewN]
    exact hend _
  · have k1 : (x.bus != y.bus) = false := by simpa using k1
    have kb : x.bus = y.bus := by simpa using k1
    by_cases k2 : (x.long != y.long) = true
    · cases k3 : y.long with
      | true =>
        have e1 : tcf x y = -1 := by unfold tcf; rw [if_neg (by omega), if_pos (by simpa using k2), if_pos k3]
        rw [e1]
        have k4 : x.long = !y.long := by cases hh : x.long <;> simp [hh, k3] at k2 ⊢
        rw [k3] at d2 k2 k4
        rw [k4] at b2
        go_enter Tryz.func20, Tryz.ntmps20
        go_wp2
        go_quiet (fail)
        go_wp2
        go_quiet (fail)
        go_wp2
        go_ret
        refine ⟨rfl, ?_⟩
        try simp only [World.drewN_drewN]
        exact hend _
      | false =>
        have e1 : tcf x y = 1 := by unfold tcf; rw [if_neg (by omega), if_pos (by simpa using k2), if_neg (by rw [k3]; decide)]
        rw [e1]
        have k4 : x.long = !y.long := by cases hh : x.long <;> simp [hh, k3] at k2 ⊢
        rw [k3] at d2 k2 k4
        rw [k4] at b2
        go_enter Tryz.func20, Tryz.ntmps20
        go_wp2
        go_quiet (fail)
        go_wp2
        go_quiet (fail)
        go_wp2
        go_ret
        refine ⟨rfl, ?_⟩
        try simp only [World.drewN_drewN]
        exact hend _
    · have k2 : (x.long != y.long) = false := by simpa using k2
      have w1 := hw x.id y.id (by omega) (by omega)
      have e1 : tcf x y = x.id - y.id := by unfold tcf; rw [if_neg (by omega), if_neg (by simpa using k2)]
      rw [e1]
      go_enter Tryz.func20, Tryz.ntmps20
      go_wp2
      go_quiet (fail)
      go_wp2
      go_quiet (fail)
      go_wp2
      go_quiet (fail)
      go_wp2
      go_ret
      refine ⟨rfl, ?_⟩
      try simp only [World.drewN_drewN]
      exact hend _

open Go.Sort Go.Shelf in
theorem tsrt_call {gp : List (Nat × Tally)} {xs : List Tally} {ao : Option Addr} {cap : Nat} {e : TypeId} {B : Nat} {w0 w : World} {Z0 Z : Fz} {R : List Res} (hM : Mem B [] w0 Z0 R Z w) (i : Nat) (hi : R[i]? = some (.own tyRp e ao cap (gp.map (·.1)))) (hx : gp.map (·.2) = xs) (hr : ∀ p ∈ gp, Res.row p.1 (Tally.enc p.2) 55 ∈ R) (hpre : tsrtPre xs) :
    Calls Tryz.prog 19 #[.slice ao xs.length cap, .func (.func 20) #[] #[]] w fun e9 w' => e9 = .returned (.tuple #[]) ∧ ∃ gp' : List (Nat × Tally), gp.Perm gp' ∧ (gp'.map (·.2)).Pairwise (fun x y => ¬ tcf y x < 0) ∧ Mem B [] w0 Z0 (R.set i (.own tyRp e ao cap (gp'.map (·.1)))) Z w' := by
  -- by hand
  exact sortP hM i hi hx hr (tsrt_swo hpre) (fun β _ enc' h1 cf' hO blk off cap d w hC hH hb hs => Any.slices_SortFunc Tryz.laysF19 enc' h1 cf' hO 20 #[] blk off cap d w (enters_of Tryz.func20 (by kernel_rfl) rfl) hC hH hb hs)
    (fun p cap fv w => AnyF.slices_SortFunc_none { Tryz.laysF19 with } p cap fv w) (fun W x y b c h1 h2 h3 h4 => tsrt_cmp hpre W x y b c h1 h2 h3 h4)

theorem ttally_walk (u0 : List Line) (ao1 : Option Addr) (cap2 : Nat) (Z : Fz) (w : World) (hs3 : SlR tyLine Z ao1 cap2 u0) (hZ : Z.on w) {K : ((List (Int × Int × Int × Int × Int)) × Int) → Prop} (hp : ttally_vc u0 K) : Calls Tryz.prog 6 #[.slice ao1 u0.length cap2] w fun e w' => ∃ (r : (List (Int × Int × Int × Int × Int)) × Int) (ao1001 : Option Addr) (cap1002 : Nat) (Z' : Fz), e = .returned (.tuple #[.slice ao1001 r.1.length cap1002, i6 r.2]) ∧ K r ∧ Mem w.heap.size [] w Z [.own (tyFlat (fun x : Int × Int × Int × Int × Int => [i6 x.1, i6 x.2.1, i6 x.2.2.1, i6 x.2.2.2.1, i6 x.2.2.2.2]) 5 (fun _ => rfl) (fun x => by simp [Value.oneCell'])) 38 ao1001 cap1002 r.1] Z' w' := by
 refine enter0 Tryz.func6 rfl rfl (by kernel_rfl) ?_; intro a0 bm; have ag := Mem.start w Z hZ
 have ah := hp (hs3.small)
 refine sqB bm ag [] [] [] ?_; intro a8 bn
 refine s_ (sqH ?_); intro dN bo
 refine s1 bn 15 (.slice ao1 u0.length cap2) ?_; intro fp bp
 refine fc bp ag (tcheck_fun u0 ao1 cap2 _ _ hs3 ag.fz) ?_; intro fq bq br O
 refine s1 br 4 (i6 (checkS u0)) ?_; intro fr bs
 apply bo
 refine sqB bs O [] [] [(18, .bool ((checkS u0) != 0))] ?_; intro fs V
 refine c_ V ah (fun _ dO => ?_) fun _ dR => ?_
 ·
  refine sqB V O [] [] [(2, .slice none 0 0), (3, i6 (checkS u0))] ?_; intro ft dP
  refine r_ (h_ ?_)
  have dQ : Mem w.heap.size [] w Z [.own (tyFlat (fun x : Int × Int × Int × Int × Int => [i6 x.1, i6 x.2.1, i6 x.2.2.1, i6 x.2.2.2.1, i6 x.2.2.2.2]) 5 (fun _ => rfl) (fun x => by simp [Value.oneCell'])) 38 none 0 ([] : List (Int × Int × Int × Int × Int))] Z bq := O.addNil (tyFlat (fun x : Int × Int × Int × Int × Int => [i6 x.1, i6 x.2.1, i6 x.2.2.1, i6 x.2.2.2.1, i6 x.2.2.2.2]) 5 (fun _ => rfl) (fun x => by simp [Value.oneCell'])) 38 (by decide)
  exact ra2 dP (.tuple #[.slice none ([] : List (Int × Int × Int × Int × Int)).length 0, i6 (checkS u0)]) ⟨(([] : List (Int × Int × Int × Int × Int)), (checkS u0)), none, 0, Z, rfl, dO, dQ.kp⟩
 ·
  refine k_ (sqB V O [] [] [(5, .slice none 0 0)] ?_); intro fu bu
  refine s_ (sqB bu O [] [] [(20, .slice ao1 u0.length cap2), (21, i6 (u0.length : Int)), (22, i6 0)] ?_); intro bv bw
  apply b_
  have bx : Fr 139 [] [⟨5, [], .slice none 0 0⟩, ⟨20, [], .slice ao1 u0.length cap2⟩, ⟨21, [], i6 (u0.length : Int)⟩, ⟨22, [], i6 0⟩] bv := bw.reg
  have bz : Mem w.heap.size [] w Z ((.own tyRp 53 none 0 (([] : List (Nat × Tally)).map (·.1))) :: (hsP Tally.enc 55 ([] : List (Nat × Tally)) [])) Z bq := O.addNilP 53
  have bA : Fr 139 [] [⟨5, [], .slice none ([] : List Tally).length 0⟩, ⟨20, [], .slice ao1 u0.length cap2⟩, ⟨21, [], i6 (u0.length : Int)⟩, ⟨22, [], i6 0⟩] bv := bx.reg
  obtain ⟨dS, dT, dU, dV⟩ := dR
  refine lp (ι := (List Tally) × Int × (Option Addr) × Nat × (List (Nat × Tally)) × Fz) (fun s => [⟨5, [], .slice s.2.2.1 s.1.length s.2.2.2.1⟩, ⟨20, [], .slice ao1 u0.length cap2⟩, ⟨21, [], i6 (u0.length : Int)⟩, ⟨22, [], i6 s.2.1⟩]) (fun s => ((.own tyRp 53 s.2.2.1 s.2.2.2.1 (s.2.2.2.2.1.map (·.1))) :: (hsP Tally.enc 55 s.2.2.2.2.1 []))) (fun s => s.2.2.2.2.2) (fun s => dS s.1 s.2.1 ∧ s.2.2.2.2.1.map (·.2) = s.1 ∧ Fz.le Z s.2.2.2.2.2) (fun s => dT s.1 s.2.1) ⟨([] : List Tally), 0, none, 0, ([] : List (Nat × Tally)), Z⟩ ⟨dU, rfl, Fz.le.refl _⟩ (by exact bA.reg) (by exact bz) ?_
  rintro ⟨f, u, m, h, i, ai⟩ ⟨dW, M, N⟩ dX dY bB bC
  have aj := dV f u dW
  have X := hs3.mono N
  refine sqB bB bC [] [] [(23, .bool (decide (u < (u0.length : Int))))] ?_; intro fw Y
  refine s_ (c_ Y aj (fun _ dZ => ?_) fun _ eG => ?_)
  ·
   refine k_ (s_ (b_ (sqH ?_))); intro d0 bE
   obtain ⟨d1, bF⟩ := dZ
   refine ix_ Y X u d1 .i64 36 64 ?_; intro fx fy fA c fB d2 aE d3 bG
   have bH := bF c d2
   obtain ⟨ak, al, rfl, am⟩ := d3
   have an := bH (am.small)
   refine z2 bG bC 25 aE 0 8 (e36Tb c ak al) rfl ?_; intro fC bI
   refine nw bI bC pb [i6 0, i6 0, i6 0, .bool false, .bool false, .bool false, i6 0, .slice none 0 0] 36 ?_; intro z fD fE aF bJ
   refine sx aF bJ 0 (e36Tb c ak al) 0 ?_; intro bK bL
   have bM : Mem w.heap.size [] w Z ((.row z (e36Tb c ak al) 36) :: (.own tyRp 53 m h (i.map (·.1))) :: (hsP Tally.enc 55 i [])) ai bK := bL
   apply bE
   refine sqH ?_; intro d4 bN
   refine bt aF bM 2 [] [] [(26, .slice m f.length h), (27, .func (.func 18) #[] #[pt z 0])] ?_; intro fF bO
   obtain ⟨v, aa, bP, R⟩ := bM.freezeRow 0 rfl
   replace N := N.mono aa
   replace am := am.mono aa
   have aG : Mem w.heap.size [] w Z ((.own tyRp 53 m h (i.map (·.1))) :: (hsP Tally.enc 55 i [])) v bK := bP
   refine fc bO aG ((by obtain ⟨Z9, d5, d6, d7⟩ := aG.lendP (T := tyTally) (fun _ _ => rfl) 0 rfl M (by intro p hp; repeat first | exact hsP_mem hp | apply List.mem_cons_of_mem); exact tidxf_fun f (fun x0 => tal1 x0 c) m h 18 #[pt z 0] _ _ d7 (fun Z1 w1 h1 h2 => (fun Z1 w1 h1 h2 x0 m0 n0 s0 => tal1_fun x0 c m0 n0 z 0 ak al Z1 w1 s0 (R.mono h1) (SlR.mono am h1) h2) Z1 w1 (Fz.le.trans d5 h1) h2) (fun _ _ => by kernel_rfl) d6)) ?_; intro fG d8 bQ B
   refine s1 bQ 8 (i6 (tidxS f (fun x0 => tal1 x0 c))) ?_; intro fH bR
   apply bN
   refine s_ (sqB bR B [] [] [(30, .bool (decide ((tidxS f (fun x0 => tal1 x0 c)) < 0)))] ?_); intro fI ab
   refine c_ ab an (fun _ d9 => ?_) fun _ ef => ?_
   ·
    refine sqH ?_; intro ea bS
    refine bt ab B 2 [] [] [(31, .slice m f.length h), (32, pt z 1)] ?_; intro fJ bT
    refine z1 bT B 33 R 1 (i6 c.Bus) rfl ?_; intro fK bU
    refine bt bU B 2 [] [] [(35, pt z 2)] ?_; intro fL bV
    refine z1 bV B 36 R 2 (i6 c.F.ID) rfl ?_; intro fM bW
    refine bt bW B 2 [] [] [(38, pt z 3)] ?_; intro fN bX
    refine z1 bX B 39 R 3 (.bool c.F.Long) rfl ?_; intro fO bY
    refine s1 bY 40 (pt z 0) ?_; intro fP bZ
    refine z1 bZ B 41 R 0 (i6 c.Time) rfl ?_; intro fQ b0
    refine s1 b0 42 (.agg #[i6 c.Bus, i6 c.F.ID, .bool c.F.Long, i6 1, i6 0, i6 c.Time, i6 (-1), i6 (-1)]) ?_; intro fR b1
    refine nw b1 B pb [i6 c.Bus, i6 c.F.ID, .bool c.F.Long, i6 1, i6 0, i6 c.Time, i6 (-1), i6 (-1)] 55 ?_; intro G fS fT b2 b3
    refine nw b2 b3 (fun b => .slice (sm b) 1 1) [pt G 0] 53 ?_; intro aI fU fV b4 aJ
    obtain ⟨eb, b5⟩ := d9
    refine apP b4 aJ 2 (ao := m) (cap := h) (ao2 := (sm aI)) (cap2 := 1) (t := 51) (e := 53) (bytes := 8) M G (⟨c.Bus, c.F.ID, c.F.Long, 1, 0, c.Time, -1, -1⟩ : Tally) (nog rfl _) rfl (by kernel_rfl) rfl (by kernel_rfl) (by kernel_rfl) (by kernel_rfl) rfl (Src.row aJ 0 rfl (RepAll.one (T := tyRp) (x := G) rfl)) eb ?_; intro aq ar fW b6 b7 ec
    have ed : (i ++ [(G, (⟨c.Bus, c.F.ID, c.F.Long, 1, 0, c.Time, -1, -1⟩ : Tally))]).map (·.2) = f ++ [(⟨c.Bus, c.F.ID, c.F.Long, 1, 0, c.Time, -1, -1⟩ : Tally)] := moreP M
    have b8 := ec.perm (((pk 1 rfl).trans (lpr.cons _)).cons _)
    have b9 : Mem w.heap.size [] w Z ((.row aI [pt G 0] 53) :: (.own tyRp 53 aq ar ((i ++ [(G, (⟨c.Bus, c.F.ID, c.F.Long, 1, 0, c.Time, -1, -1⟩ : Tally))]).map (·.1))) :: (.row G (Tally.enc (⟨c.Bus, c.F.ID, c.F.Long, 1, 0, c.Time, -1, -1⟩ : Tally)) 55) :: (hsP Tally.enc 55 i [])) v b6 := b8
    have ca : Mem w.heap.size [] w Z ((.row aI [pt G 0] 53) :: (.own tyRp 53 aq ar ((i ++ [(G, (⟨c.Bus, c.F.ID, c.F.Long, 1, 0, c.Time, -1, -1⟩ : Tally))]).map (·.1))) :: (hsP Tally.enc 55 (i ++ [(G, (⟨c.Bus, c.F.ID, c.F.Long, 1, 0, c.Time, -1, -1⟩ : Tally))]) [])) v b6 := (b9.perm (List.Perm.cons _ (List.Perm.cons _ (hsP_more (enc := Tally.enc) (t := 55)))))
    refine s1 b7 5 (.slice aq (f ++ [(⟨c.Bus, c.F.ID, c.F.Long, 1, 0, c.Time, -1, -1⟩ : Tally)]).length ar) ?_; intro fX cb
    apply bS
    refine x_ (y_ (z_ (t_ (rgB cb ca [] [] [(22, i6 (w64 (u + 1)))] ?_)))); intro fY ee
    exact d_ ⟨⟨f ++ [(⟨c.Bus, c.F.ID, c.F.Long, 1, 0, c.Time, -1, -1⟩ : Tally)], w64 (u + 1), aq, ar, (i ++ [(G, (⟨c.Bus, c.F.ID, c.F.Long, 1, 0, c.Time, -1, -1⟩ : Tally))]), v⟩, ⟨b5.1, ed, N⟩, b5.2, (ee.reg).anyβ _ (by kernel_rfl), ca.kp⟩
   ·
    refine k_ (sqH ?_); intro eg cc
    refine bt ab B 2 [] [] [(46, .slice m f.length h), (47, i6 (tidxS f (fun x0 => tal1 x0 c)))] ?_; intro fZ ce
    obtain ⟨eh, cf⟩ := ef
    refine ixoP ce B 0 M (tidxS f (fun x0 => tal1 x0 c)) eh (k := .i64) (e := 53) (bytes := 8) (nog rfl _) rfl (by kernel_rfl) rfl (by kernel_rfl) (by kernel_rfl) rfl (by kernel_rfl) ?_; intro A f0 ei cg
    subst ei
    obtain ⟨a, ej, au⟩ := gxq cf (by first | omega | (simp only [List.length_set] at *; omega))
    obtain ⟨j, U⟩ := Mem.ptrAt M ej; have ek := own_elP B 0 rfl (tidxS f (fun x0 => tal1 x0 c)).toNat U
    refine lc1 cg 49 (pt j 0) ek rfl ?_; intro f1 ch
    have ci : Mem w.heap.size [] w Z ((.own tyRp 53 (sm A) h (i.map (·.1))) :: (.row j (e55Tb a) 55) :: (hsP Tally.enc 55 (i.eraseIdx (tidxS f (fun x0 => tal1 x0 c)).toNat) [])) v d8 := B.perm (List.Perm.cons _ (hsP_open (enc := Tally.enc) (t := 55) U))
    refine s1 ch 9 (pt j 0) ?_; intro el cj
    apply cc
    have cl : Fr 139 [] [⟨5, [], .slice (sm A) f.length h⟩, ⟨7, [], pt z 0⟩, ⟨9, [], pt j 0⟩, ⟨20, [], .slice ao1 u0.length cap2⟩, ⟨21, [], i6 (u0.length : Int)⟩, ⟨22, [], i6 u⟩] el := cj.reg
    refine sqQH mixed (by kernel_rfl) ci ?_; intro em cm
    refine q1 cl 50 (pt z 0) ?_; intro f2 aK
    refine qz_ aK R 0 (i6 c.Time) rfl ?_; intro f3 cn
    refine q1 cn 52 (pt j 0) ?_; intro f4 co
    refine q1 co 53 (pt j 0) ?_; intro f5 cp
    refine q1 cp 54 (pt j 5) ?_; intro f6 aL
    refine ql_ aL 1 5 (i6 a.last) rfl rfl ?_; intro f7 cq
    refine q1 cq 56 (i6 (w64 (c.Time - a.last))) ?_; intro f8 cr
    refine q1 cr 10 (i6 (w64 (c.Time - a.last))) ?_; intro en ct
    refine qnl (cm _ ?_); intro f9 cu
    have cv : Fr 139 [] [⟨5, [], .slice (sm A) f.length h⟩, ⟨7, [], pt z 0⟩, ⟨9, [], pt j 0⟩, ⟨10, [], i6 (w64 (c.Time - a.last))⟩, ⟨20, [], .slice ao1 u0.length cap2⟩, ⟨21, [], i6 (u0.length : Int)⟩, ⟨22, [], i6 u⟩] en := ct.reg
    refine wp_seq (rgS mixed cu [(0, true), (1, true), (2, true), (3, true), (4, true), (7, true), (8, true), (5, false), (6, true), (9, true), (10, true), (11, false), (12, true), (13, true), (14, false)] [14] [] [] ?_)
    intro eo cw ga av
    have cx := Fz.le.refl v
    refine cS cv 6 [] [] [(57, pt j 0), (58, pt j 0), (61, pt j 3), (64, pt z 0)] ?_; intro gb aM
    refine cst rfl aM (i6 c.Time) (nog rfl _) rfl (by kernel_rfl) (fun v239 hC => lz aM hC.fz R 0 (g := []) rfl (by kernel_rfl) (by kernel_rfl) (by kernel_rfl) rfl) ?_; intro gc cy
    refine eS rfl ?_; intro ep cz
    refine l1 cy av 62 1 3 (i6 a.n) rfl rfl ?_; intro gd cA
    refine nl (qnI (cz _ _ (av.cst cx []) ?_))
    refine cS cA 3 [] [] [(63, i6 (w64 (a.n + 1))), (67, pt j 3)] ?_; intro ge aN
    refine eS rfl ?_; intro eq cB
    refine sx aN av 1 [i6 a.bus, i6 a.id, .bool a.long, i6 (w64 (a.n + 1)), i6 a.first, i6 a.last, i6 a.low, i6 a.high] 3 ?_; intro er cC
    have aO : Mem w.heap.size [] w Z ((.own tyRp 53 (sm A) h (i.map (·.1))) :: (.row j [i6 a.bus, i6 a.id, .bool a.long, i6 (w64 (a.n + 1)), i6 a.first, i6 a.last, i6 a.low, i6 a.high] 55) :: (hsP Tally.enc 55 (i.eraseIdx (tidxS f (fun x0 => tal1 x0 c)).toNat) [])) v er := cC
    refine nl (qnI (cB _ _ (aO.cst cx []) ?_))
    refine cS aN 2 [] [] [(69, pt j 5)] ?_; intro gf aP
    refine eL rfl ?_; intro es cD
    refine sx aP aO 1 [i6 a.bus, i6 a.id, .bool a.long, i6 (w64 (a.n + 1)), i6 a.first, i6 c.Time, i6 a.low, i6 a.high] 5 ?_; intro et cE
    have S : Mem w.heap.size [] w Z ((.own tyRp 53 (sm A) h (i.map (·.1))) :: (.row j [i6 a.bus, i6 a.id, .bool a.long, i6 (w64 (a.n + 1)), i6 a.first, i6 c.Time, i6 a.low, i6 a.high] 55) :: (hsP Tally.enc 55 (i.eraseIdx (tidxS f (fun x0 => tal1 x0 c)).toNat) [])) v et := cE
    refine nl (qnI (cD _ _ ?_))
    refine nS (cw _ _ ?_)
    refine t_ (s_ (sqB aP S [1, 1] [] [(82, .bool ((decide (a.low < 0)) || (decide ((w64 (c.Time - a.last)) < a.low))))] ?_)); intro gg ac
    refine c_ ac au (fun _ cF => ?_) fun _ cL => ?_
    ·
     refine rgH ?_; intro eu cG
     refine bt ac S 4 [] [] [(84, i6 (w64 (c.Time - a.last))), (86, pt j 6)] ?_; intro gh aR
     refine sx aR S 1 [i6 a.bus, i6 a.id, .bool a.long, i6 (w64 (a.n + 1)), i6 a.first, i6 c.Time, i6 (w64 (c.Time - a.last)), i6 a.high] 6 ?_; intro ev cH
     have aS : Mem w.heap.size [] w Z ((.own tyRp 53 (sm A) h (i.map (·.1))) :: (.row j [i6 a.bus, i6 a.id, .bool a.long, i6 (w64 (a.n + 1)), i6 a.first, i6 c.Time, i6 (w64 (c.Time - a.last)), i6 a.high] 55) :: (hsP Tally.enc 55 (i.eraseIdx (tidxS f (fun x0 => tal1 x0 c)).toNat) [])) v ev := cH
     apply cG
     refine t_ (rgH ?_); intro ew cI
     refine bt aR aS 9 [1] [] [(93, i6 (max a.high (w64 (c.Time - a.last)))), (95, pt j 7)] ?_; intro gi aT
     refine sx aT aS 1 [i6 a.bus, i6 a.id, .bool a.long, i6 (w64 (a.n + 1)), i6 a.first, i6 c.Time, i6 (w64 (c.Time - a.last)), i6 (max a.high (w64 (c.Time - a.last)))] 7 ?_; intro aU cJ
     have aV : Mem w.heap.size [] w Z ((.own tyRp 53 (sm A) h (i.map (·.1))) :: (.row j [i6 a.bus, i6 a.id, .bool a.long, i6 (w64 (a.n + 1)), i6 a.first, i6 c.Time, i6 (w64 (c.Time - a.last)), i6 (max a.high (w64 (c.Time - a.last)))] 55) :: (hsP Tally.enc 55 (i.eraseIdx (tidxS f (fun x0 => tal1 x0 c)).toNat) [])) v aU := cJ
     apply cI
     refine j_ (t_ (rgB aT aV [] [] [(22, i6 (w64 (u + 1)))] ?_)); intro ex aW
     apply d_
     have cK : Mem w.heap.size [] w Z ((.own tyRp 53 (sm A) h (i.map (·.1))) :: (.row j (Tally.enc (⟨a.bus, a.id, a.long, w64 (a.n + 1), a.first, c.Time, w64 (c.Time - a.last), max a.high (w64 (c.Time - a.last))⟩ : Tally)) 55) :: (hsP Tally.enc 55 (i.eraseIdx (tidxS f (fun x0 => tal1 x0 c)).toNat) [])) v aU := aV
     have ey : (i.set (tidxS f (fun x0 => tal1 x0 c)).toNat (j, (⟨a.bus, a.id, a.long, w64 (a.n + 1), a.first, c.Time, w64 (c.Time - a.last), max a.high (w64 (c.Time - a.last))⟩ : Tally))).map (·.2) = f.set (tidxS f (fun x0 => tal1 x0 c)).toNat (⟨a.bus, a.id, a.long, w64 (a.n + 1), a.first, c.Time, w64 (c.Time - a.last), max a.high (w64 (c.Time - a.last))⟩ : Tally) := setP2 M
     have ez : Mem w.heap.size [] w Z ((.own tyRp 53 (sm A) h ((i.set (tidxS f (fun x0 => tal1 x0 c)).toNat (j, (⟨a.bus, a.id, a.long, w64 (a.n + 1), a.first, c.Time, w64 (c.Time - a.last), max a.high (w64 (c.Time - a.last))⟩ : Tally))).map (·.1))) :: (hsP Tally.enc 55 (i.set (tidxS f (fun x0 => tal1 x0 c)).toNat (j, (⟨a.bus, a.id, a.long, w64 (a.n + 1), a.first, c.Time, w64 (c.Time - a.last), max a.high (w64 (c.Time - a.last))⟩ : Tally))) [])) v aU := by rw [setP U]; exact cK.perm (List.Perm.cons _ (hsP_close (enc := Tally.enc) (t := 55) (y := (⟨a.bus, a.id, a.long, w64 (a.n + 1), a.first, c.Time, w64 (c.Time - a.last), max a.high (w64 (c.Time - a.last))⟩ : Tally)) U))
     have eA : Fr 139 [] [⟨5, [], .slice (sm A) (f.set (tidxS f (fun x0 => tal1 x0 c)).toNat (⟨a.bus, a.id, a.long, w64 (a.n + 1), a.first, c.Time, w64 (c.Time - a.last), max a.high (w64 (c.Time - a.last))⟩ : Tally)).length h⟩, ⟨7, [], pt z 0⟩, ⟨10, [], i6 (w64 (c.Time - a.last))⟩, ⟨20, [], .slice ao1 u0.length cap2⟩, ⟨21, [], i6 (u0.length : Int)⟩, ⟨22, [], i6 (w64 (u + 1))⟩, ⟨62, [], i6 a.n⟩, ⟨63, [], i6 (w64 (a.n + 1))⟩, ⟨64, [], pt z 0⟩, ⟨65, [], i6 c.Time⟩, ⟨82, [], .bool ((decide (a.low < 0)) || (decide ((w64 (c.Time - a.last)) < a.low)))⟩, ⟨84, [], i6 (w64 (c.Time - a.last))⟩, ⟨93, [], i6 (max a.high (w64 (c.Time - a.last)))⟩] ex := by (try simp only [List.length_set] at aW); (try simp only [List.length_set]); exact aW.reg
     exact ⟨⟨f.set (tidxS f (fun x0 => tal1 x0 c)).toNat (⟨a.bus, a.id, a.long, w64 (a.n + 1), a.first, c.Time, w64 (c.Time - a.last), max a.high (w64 (c.Time - a.last))⟩ : Tally), w64 (u + 1), (sm A), h, (i.set (tidxS f (fun x0 => tal1 x0 c)).toNat (j, (⟨a.bus, a.id, a.long, w64 (a.n + 1), a.first, c.Time, w64 (c.Time - a.last), max a.high (w64 (c.Time - a.last))⟩ : Tally))), v⟩, ⟨cF.1, ey, N⟩, cF.2, (eA.reg).anyβ _ (by kernel_rfl), ez.kp⟩
    ·
     refine k_ (rgH ?_); intro eB cM
     refine bt ac S 9 [1] [] [(93, i6 (max a.high (w64 (c.Time - a.last)))), (95, pt j 7)] ?_; intro gj aX
     refine sx aX S 1 [i6 a.bus, i6 a.id, .bool a.long, i6 (w64 (a.n + 1)), i6 a.first, i6 c.Time, i6 a.low, i6 (max a.high (w64 (c.Time - a.last)))] 7 ?_; intro aY cN
     have aZ : Mem w.heap.size [] w Z ((.own tyRp 53 (sm A) h (i.map (·.1))) :: (.row j [i6 a.bus, i6 a.id, .bool a.long, i6 (w64 (a.n + 1)), i6 a.first, i6 c.Time, i6 a.low, i6 (max a.high (w64 (c.Time - a.last)))] 55) :: (hsP Tally.enc 55 (i.eraseIdx (tidxS f (fun x0 => tal1 x0 c)).toNat) [])) v aY := cN
     apply cM
     refine j_ (t_ (rgB aX aZ [] [] [(22, i6 (w64 (u + 1)))] ?_)); intro eC a1
     apply d_
     have cO : Mem w.heap.size [] w Z ((.own tyRp 53 (sm A) h (i.map (·.1))) :: (.row j (Tally.enc (⟨a.bus, a.id, a.long, w64 (a.n + 1), a.first, c.Time, a.low, max a.high (w64 (c.Time - a.last))⟩ : Tally)) 55) :: (hsP Tally.enc 55 (i.eraseIdx (tidxS f (fun x0 => tal1 x0 c)).toNat) [])) v aY := aZ
     have eD : (i.set (tidxS f (fun x0 => tal1 x0 c)).toNat (j, (⟨a.bus, a.id, a.long, w64 (a.n + 1), a.first, c.Time, a.low, max a.high (w64 (c.Time - a.last))⟩ : Tally))).map (·.2) = f.set (tidxS f (fun x0 => tal1 x0 c)).toNat (⟨a.bus, a.id, a.long, w64 (a.n + 1), a.first, c.Time, a.low, max a.high (w64 (c.Time - a.last))⟩ : Tally) := setP2 M
     have eE : Mem w.heap.size [] w Z ((.own tyRp 53 (sm A) h ((i.set (tidxS f (fun x0 => tal1 x0 c)).toNat (j, (⟨a.bus, a.id, a.long, w64 (a.n + 1), a.first, c.Time, a.low, max a.high (w64 (c.Time - a.last))⟩ : Tally))).map (·.1))) :: (hsP Tally.enc 55 (i.set (tidxS f (fun x0 => tal1 x0 c)).toNat (j, (⟨a.bus, a.id, a.long, w64 (a.n + 1), a.first, c.Time, a.low, max a.high (w64 (c.Time - a.last))⟩ : Tally))) [])) v aY := by rw [setP U]; exact cO.perm (List.Perm.cons _ (hsP_close (enc := Tally.enc) (t := 55) (y := (⟨a.bus, a.id, a.long, w64 (a.n + 1), a.first, c.Time, a.low, max a.high (w64 (c.Time - a.last))⟩ : Tally)) U))
     have eF : Fr 139 [] [⟨5, [], .slice (sm A) (f.set (tidxS f (fun x0 => tal1 x0 c)).toNat (⟨a.bus, a.id, a.long, w64 (a.n + 1), a.first, c.Time, a.low, max a.high (w64 (c.Time - a.last))⟩ : Tally)).length h⟩, ⟨7, [], pt z 0⟩, ⟨10, [], i6 (w64 (c.Time - a.last))⟩, ⟨20, [], .slice ao1 u0.length cap2⟩, ⟨21, [], i6 (u0.length : Int)⟩, ⟨22, [], i6 (w64 (u + 1))⟩, ⟨62, [], i6 a.n⟩, ⟨63, [], i6 (w64 (a.n + 1))⟩, ⟨64, [], pt z 0⟩, ⟨65, [], i6 c.Time⟩, ⟨82, [], .bool ((decide (a.low < 0)) || (decide ((w64 (c.Time - a.last)) < a.low)))⟩, ⟨93, [], i6 (max a.high (w64 (c.Time - a.last)))⟩] eC := by (try simp only [List.length_set] at a1); (try simp only [List.length_set]); exact a1.reg
     exact ⟨⟨f.set (tidxS f (fun x0 => tal1 x0 c)).toNat (⟨a.bus, a.id, a.long, w64 (a.n + 1), a.first, c.Time, a.low, max a.high (w64 (c.Time - a.last))⟩ : Tally), w64 (u + 1), (sm A), h, (i.set (tidxS f (fun x0 => tal1 x0 c)).toNat (j, (⟨a.bus, a.id, a.long, w64 (a.n + 1), a.first, c.Time, a.low, max a.high (w64 (c.Time - a.last))⟩ : Tally))), v⟩, ⟨cL.1, eD, N⟩, cL.2, (eF.reg).anyβ _ (by kernel_rfl), eE.kp⟩
  ·
   refine x_ (y_ (y_ (z_ (t_ (sqH ?_))))); intro eH cP
   refine s1 Y 97 (.slice m f.length h) ?_; intro gk cQ
   obtain ⟨eI, cR⟩ := eG
   refine ck cQ 19 #[.slice m f.length h, .func (.func 20) #[] #[]] ?_
   refine (tsrt_call bC 0 rfl M (by intro p hp; repeat first | exact hsP_mem hp | apply List.mem_cons_of_mem) eI).mono ?_; rintro _ a2 ⟨rfl, ad, cT, cU, hm⟩; refine ⟨_, rfl, ?_⟩; intro eJ cV; have cW := hm
   obtain ⟨o, a3⟩ : ∃ l, ad.map (·.2) = l := ⟨_, rfl⟩; rw [a3] at cU
   have aw : f.Perm o := by have h9 := cT.map (·.2); rwa [M, a3] at h9
   have eK := cR o ⟨aw, cU⟩
   replace aw := aw.length_eq
   have ax : Mem w.heap.size [] w Z ((.own tyRp 53 m h (ad.map (·.1))) :: (hsP Tally.enc 55 ad [])) ai a2 := cW.perm (List.Perm.cons _ (hsP_perm cT))
   have cX : Fr 139 [] [⟨5, [], .slice m o.length h⟩, ⟨20, [], .slice ao1 u0.length cap2⟩, ⟨21, [], i6 (u0.length : Int)⟩, ⟨22, [], i6 u⟩, ⟨23, [], .bool (decide (u < (u0.length : Int)))⟩, ⟨97, [], .slice m o.length h⟩, ⟨98, [], .tuple #[]⟩] eJ := by rw [← aw]; exact cV.reg
   apply cP
   refine sqB cX ax [] [] [(11, .slice none 0 0)] ?_; intro gl cY
   refine s_ (sqB cY ax [] [] [(99, .slice m o.length h), (100, i6 (o.length : Int)), (101, i6 0)] ?_); intro cZ c0
   apply b_
   have c1 : Fr 139 [] [⟨11, [], .slice none 0 0⟩, ⟨99, [], .slice m o.length h⟩, ⟨100, [], i6 (o.length : Int)⟩, ⟨101, [], i6 0⟩] cZ := c0.reg
   have eM : Mem w.heap.size [] w Z ((.own (tyFlat (fun x : Int × Int × Int × Int × Int => [i6 x.1, i6 x.2.1, i6 x.2.2.1, i6 x.2.2.2.1, i6 x.2.2.2.2]) 5 (fun _ => rfl) (fun x => by simp [Value.oneCell'])) 38 none 0 ([] : List (Int × Int × Int × Int × Int))) :: (.own tyRp 53 m h (ad.map (·.1))) :: (hsP Tally.enc 55 ad [])) ai a2 := ax.addNil (tyFlat (fun x : Int × Int × Int × Int × Int => [i6 x.1, i6 x.2.1, i6 x.2.2.1, i6 x.2.2.2.1, i6 x.2.2.2.2]) 5 (fun _ => rfl) (fun x => by simp [Value.oneCell'])) 38 (by decide)
   obtain ⟨P, a4, c2, eN⟩ := eM.freezeP (T := tyTally) (fun _ _ => rfl) (hsP_step (hsP_step lpr)) 1 rfl a3
   have c3 : Mem w.heap.size [] w Z [.own (tyFlat (fun x : Int × Int × Int × Int × Int => [i6 x.1, i6 x.2.1, i6 x.2.2.1, i6 x.2.2.2.1, i6 x.2.2.2.2]) 5 (fun _ => rfl) (fun x => by simp [Value.oneCell'])) 38 none 0 ([] : List (Int × Int × Int × Int × Int))] P a2 := c2
   have c4 : Fr 139 [] [⟨11, [], .slice none ([] : List (Int × Int × Int × Int × Int)).length 0⟩, ⟨99, [], .slice m o.length h⟩, ⟨100, [], i6 (o.length : Int)⟩, ⟨101, [], i6 0⟩] cZ := c1.reg
   obtain ⟨eO, eP, eQ, eR⟩ := eK
   refine lp (ι := (List (Int × Int × Int × Int × Int)) × Int × (Option Addr) × Nat) (fun s => [⟨11, [], .slice s.2.2.1 s.1.length s.2.2.2⟩, ⟨99, [], .slice m o.length h⟩, ⟨100, [], i6 (o.length : Int)⟩, ⟨101, [], i6 s.2.1⟩]) (fun s => [.own (tyFlat (fun x : Int × Int × Int × Int × Int => [i6 x.1, i6 x.2.1, i6 x.2.2.1, i6 x.2.2.2.1, i6 x.2.2.2.2]) 5 (fun _ => rfl) (fun x => by simp [Value.oneCell'])) 38 s.2.2.1 s.2.2.2 s.1]) (fun s => P) (fun s => eO s.1 s.2.1) (fun s => eP s.1 s.2.1) ⟨([] : List (Int × Int × Int × Int × Int)), 0, none, 0⟩ eQ (by exact c4.reg) (by exact c3) ?_
   rintro ⟨q, H, I, J⟩ eT eU eV c5 c6
   have ay := eR q H eT
   refine sqB c5 c6 [] [] [(102, .bool (decide (H < (o.length : Int))))] ?_; intro gm ae
   refine s_ (c_ ae ay (fun _ eW => ?_) fun _ fn => ?_)
   ·
    refine k_ (s_ (b_ (sqH ?_))); intro eX c8
    obtain ⟨eY, c9⟩ := eW
    refine ix_ ae eN H eY .i64 53 8 ?_; intro gn go gp d gq eZ e0 e1 da
    have az := c9 d eZ
    obtain ⟨C, D, e2, rfl, L, e3⟩ := e1
    obtain rfl : e2 = ((e55Tb d) : List Value) := e3
    refine z1 da c6 104 e0 0 (pt C D) rfl ?_; intro gr db
    refine s1 db 13 (pt C D) ?_; intro gs dc
    apply c8
    refine sqH ?_; intro e4 dd
    refine bt dc c6 3 [] [] [(107, .pointer (some ⟨C, D + 1, none⟩))] ?_; intro gt de
    refine z1 de c6 108 L 1 (i6 d.id) rfl ?_; intro gu df
    refine s1 df 14 (i6 d.id) ?_; intro gv dg
    apply dd
    refine s_ (sqH ?_); intro e5 dh
    refine bt dg c6 3 [] [] [(111, .pointer (some ⟨C, D + 2, none⟩))] ?_; intro gw di
    refine z1 di c6 112 L 2 (.bool d.long) rfl ?_; intro e6 af
    apply dh
    refine c_ af az (fun _ e7 => ?_) fun _ fg => ?_
    ·
     refine rgB af c6 [] [] [(14, i6 (w64 ((w64 (0 - d.id)) - 1)))] ?_; intro e8 dj
     apply t_
     have dk : Fr 139 [] [⟨11, [], .slice I q.length J⟩, ⟨13, [], pt C D⟩, ⟨14, [], i6 (w64 ((w64 (0 - d.id)) - 1))⟩, ⟨99, [], .slice m o.length h⟩, ⟨100, [], i6 (o.length : Int)⟩, ⟨101, [], i6 H⟩] e8 := dj.reg
     refine rgS mixed c6 [(0, true), (1, true), (2, true), (3, true), (5, true), (6, true), (7, true), (8, true), (10, true), (11, true), (12, true), (14, true), (15, true), (16, true), (4, true), (9, true), (13, true), (17, true), (18, true), (19, false), (20, false), (21, true)] [] [] [] ?_
     intro e9 dl gx dm
     have dn := Fz.le.refl P
     refine cS dk 14 [] [] [(116, .slice I q.length J), (119, pt C D), (121, i6 (w64 ((w64 (0 - d.id)) - 1))), (124, .pointer (some ⟨C, D + 3, none⟩)), (128, .pointer (some ⟨C, D + 6, none⟩)), (132, .pointer (some ⟨C, D + 7, none⟩))] ?_; intro gy a7
     refine cst rfl a7 (i6 d.bus) (nog rfl _) rfl (by kernel_rfl) (fun v508 hC => lz a7 hC.fz L 0 (g := []) rfl (by kernel_rfl) (by kernel_rfl) (by kernel_rfl) rfl) ?_; intro gz a9
     refine cst rfl a9 (i6 d.n) (nog rfl _) rfl (by kernel_rfl) (fun v511 hC => lz a9 hC.fz L 3 (g := []) rfl (by kernel_rfl) (by kernel_rfl) (by kernel_rfl) rfl) ?_; intro gA ba
     refine cst rfl ba (i6 d.low) (nog rfl _) rfl (by kernel_rfl) (fun v514 hC => lz ba hC.fz L 6 (g := []) rfl (by kernel_rfl) (by kernel_rfl) (by kernel_rfl) rfl) ?_; intro gB bb
     refine cst rfl bb (i6 d.high) (nog rfl _) rfl (by kernel_rfl) (fun v517 hC => lz bb hC.fz L 7 (g := []) rfl (by kernel_rfl) (by kernel_rfl) (by kernel_rfl) rfl) ?_; intro gC dp
     refine cS dp 1 [] [] [(134, .agg #[i6 d.bus, i6 (w64 ((w64 (0 - d.id)) - 1)), i6 d.n, i6 d.low, i6 d.high])] ?_; intro gD dq
     refine eS rfl ?_; intro fa dr
     refine nw dq dm (fun b => .slice (sm b) 1 1) [i6 d.bus, i6 (w64 ((w64 (0 - d.id)) - 1)), i6 d.n, i6 d.low, i6 d.high] 38 ?_; intro ds gE gF dt aA
     refine nl (qnI (dr _ _ (aA.cst dn []) ?_))
     refine eS rfl ?_; intro fb du
     obtain ⟨fd, dv⟩ := e7
     refine ap dt aA 1 (T := (tyFlat (fun x : Int × Int × Int × Int × Int => [i6 x.1, i6 x.2.1, i6 x.2.2.1, i6 x.2.2.2.1, i6 x.2.2.2.2]) 5 (fun _ => rfl) (fun x => by simp [Value.oneCell']))) (xs := q) (ys := [(d.bus, w64 ((w64 (0 - d.id)) - 1), d.n, d.low, d.high)]) (ao := I) (cap := J) (ao2 := (sm ds)) (cap2 := 1) (t := 23) (e := 38) (bytes := 40) (nog rfl _) rfl (by kernel_rfl) rfl (by kernel_rfl) (by kernel_rfl) (by kernel_rfl) rfl (Src.row aA 0 rfl (RepAll.one (T := (tyFlat (fun x : Int × Int × Int × Int × Int => [i6 x.1, i6 x.2.1, i6 x.2.2.1, i6 x.2.2.2.1, i6 x.2.2.2.2]) 5 (fun _ => rfl) (fun x => by simp [Value.oneCell']))) (x := (d.bus, w64 ((w64 (0 - d.id)) - 1), d.n, d.low, d.high)) rfl)) fd ?_; intro bc bd gG fe gH dw dx
     have be : Mem w.heap.size [] w Z [.row ds [i6 d.bus, i6 (w64 ((w64 (0 - d.id)) - 1)), i6 d.n, i6 d.low, i6 d.high] 38, .own (tyFlat (fun x : Int × Int × Int × Int × Int => [i6 x.1, i6 x.2.1, i6 x.2.2.1, i6 x.2.2.2.1, i6 x.2.2.2.2]) 5 (fun _ => rfl) (fun x => by simp [Value.oneCell'])) 38 bc bd (q ++ [(d.bus, w64 ((w64 (0 - d.id)) - 1), d.n, d.low, d.high)])] P fe := dx
     refine nl (qnI (du _ _ (be.cst dn []) ?_))
     refine cS dw 1 [] [] [(11, .slice bc (q ++ [(d.bus, w64 ((w64 (0 - d.id)) - 1), d.n, d.low, d.high)]).length bd)] ?_; intro gI dy
     refine nS (dl _ _ ?_)
     refine j_ (t_ (rgB dy be [] [] [(101, i6 (w64 (H + 1)))] ?_)); intro gJ ff
     exact d_ ⟨⟨q ++ [(d.bus, w64 ((w64 (0 - d.id)) - 1), d.n, d.low, d.high)], w64 (H + 1), bc, bd⟩, dv.1, dv.2, (ff.reg).anyβ _ (by kernel_rfl), be.kp⟩
    ·
     apply k_
     have dz : Fr 139 [] [⟨11, [], .slice I q.length J⟩, ⟨13, [], pt C D⟩, ⟨14, [], i6 d.id⟩, ⟨99, [], .slice m o.length h⟩, ⟨100, [], i6 (o.length : Int)⟩, ⟨101, [], i6 H⟩] e6 := af.reg
     refine rgS mixed c6 [(0, true), (1, true), (2, true), (3, true), (5, true), (6, true), (7, true), (8, true), (10, true), (11, true), (12, true), (14, true), (15, true), (16, true), (4, true), (9, true), (13, true), (17, true), (18, true), (19, false), (20, false), (21, true)] [] [] [] ?_
     intro fh dA gK dB
     have dC := Fz.le.refl P
     refine cS dz 14 [] [] [(116, .slice I q.length J), (119, pt C D), (121, i6 d.id), (124, .pointer (some ⟨C, D + 3, none⟩)), (128, .pointer (some ⟨C, D + 6, none⟩)), (132, .pointer (some ⟨C, D + 7, none⟩))] ?_; intro gL bf
     refine cst rfl bf (i6 d.bus) (nog rfl _) rfl (by kernel_rfl) (fun v580 hC => lz bf hC.fz L 0 (g := []) rfl (by kernel_rfl) (by kernel_rfl) (by kernel_rfl) rfl) ?_; intro gM bg
     refine cst rfl bg (i6 d.n) (nog rfl _) rfl (by kernel_rfl) (fun v583 hC => lz bg hC.fz L 3 (g := []) rfl (by kernel_rfl) (by kernel_rfl) (by kernel_rfl) rfl) ?_; intro gN bh
     refine cst rfl bh (i6 d.low) (nog rfl _) rfl (by kernel_rfl) (fun v586 hC => lz bh hC.fz L 6 (g := []) rfl (by kernel_rfl) (by kernel_rfl) (by kernel_rfl) rfl) ?_; intro gO bi
     refine cst rfl bi (i6 d.high) (nog rfl _) rfl (by kernel_rfl) (fun v589 hC => lz bi hC.fz L 7 (g := []) rfl (by kernel_rfl) (by kernel_rfl) (by kernel_rfl) rfl) ?_; intro gP dD
     refine cS dD 1 [] [] [(134, .agg #[i6 d.bus, i6 d.id, i6 d.n, i6 d.low, i6 d.high])] ?_; intro gQ dE
     refine eS rfl ?_; intro fi dF
     refine nw dE dB (fun b => .slice (sm b) 1 1) [i6 d.bus, i6 d.id, i6 d.n, i6 d.low, i6 d.high] 38 ?_; intro dG gR gS dH aB
     refine nl (qnI (dF _ _ (aB.cst dC []) ?_))
     refine eS rfl ?_; intro fj dI
     obtain ⟨fk, dJ⟩ := fg
     refine ap dH aB 1 (T := (tyFlat (fun x : Int × Int × Int × Int × Int => [i6 x.1, i6 x.2.1, i6 x.2.2.1, i6 x.2.2.2.1, i6 x.2.2.2.2]) 5 (fun _ => rfl) (fun x => by simp [Value.oneCell']))) (xs := q) (ys := [(d.bus, d.id, d.n, d.low, d.high)]) (ao := I) (cap := J) (ao2 := (sm dG)) (cap2 := 1) (t := 23) (e := 38) (bytes := 40) (nog rfl _) rfl (by kernel_rfl) rfl (by kernel_rfl) (by kernel_rfl) (by kernel_rfl) rfl (Src.row aB 0 rfl (RepAll.one (T := (tyFlat (fun x : Int × Int × Int × Int × Int => [i6 x.1, i6 x.2.1, i6 x.2.2.1, i6 x.2.2.2.1, i6 x.2.2.2.2]) 5 (fun _ => rfl) (fun x => by simp [Value.oneCell']))) (x := (d.bus, d.id, d.n, d.low, d.high)) rfl)) fk ?_; intro bj bk gT fl gU dK dL
     have bl : Mem w.heap.size [] w Z [.row dG [i6 d.bus, i6 d.id, i6 d.n, i6 d.low, i6 d.high] 38, .own (tyFlat (fun x : Int × Int × Int × Int × Int => [i6 x.1, i6 x.2.1, i6 x.2.2.1, i6 x.2.2.2.1, i6 x.2.2.2.2]) 5 (fun _ => rfl) (fun x => by simp [Value.oneCell'])) 38 bj bk (q ++ [(d.bus, d.id, d.n, d.low, d.high)])] P fl := dL
     refine nl (qnI (dI _ _ (bl.cst dC []) ?_))
     refine cS dK 1 [] [] [(11, .slice bj (q ++ [(d.bus, d.id, d.n, d.low, d.high)]).length bk)] ?_; intro gV dM
     refine nS (dA _ _ ?_)
     refine j_ (t_ (rgB dM bl [] [] [(101, i6 (w64 (H + 1)))] ?_)); intro gW fm
     exact d_ ⟨⟨q ++ [(d.bus, d.id, d.n, d.low, d.high)], w64 (H + 1), bj, bk⟩, dJ.1, dJ.2, (fm.reg).anyβ _ (by kernel_rfl), bl.kp⟩
   ·
    refine x_ (y_ (y_ (z_ (t_ (sqB ae c6 [] [] [(2, .slice I q.length J), (3, i6 0)] ?_))))); intro gX fo
    exact r_ (ra2 fo (.tuple #[.slice I q.length J, i6 0]) ⟨(q, 0), I, J, P, rfl, fn, c6.kp⟩)

end Go.Proofs.YtdenmllkjdijlaaGreatDoor
set_option linter.unusedVariables false
set_option linter.unusedSimpArgs false
set_option linter.defProp false
set_option maxRecDepth 100000
set_option maxHeartbeats 0
namespace Go.Proofs.YtdenmllkjdijlaaGreatDoor
open Go.Sy Go.RowKit
theorem starE : "*" ++ "errors.errorString" = "*errors.errorString" := by decide
theorem rowE (u : TypeId) (h : Tryz.prog.typeName? 3 u = some "*errors.errorString") : u = 182 :=
  Go.typeName_ptr_named (nm := "errors.errorString") (by rw [starE]; kernel_rfl) (by kernel_rfl) (by decide) u (by rw [starE]; exact h)

def ttally_fun (u0 : List Line) (ao1 : Option Addr) (cap2 : Nat) (Z : Fz) (w : World) (hs3 : SlR tyLine Z ao1 cap2 u0) (hZ : Z.on w) := fc_ (ttally_walk u0 ao1 cap2 Z w hs3 hZ (ttally_ok u0))
theorem LBack_walk (u0 : List Line) (ao1 : Option Addr) (cap2 : Nat) (Z : Fz) (w : World) (hs3 : SlR tyLine Z ao1 cap2 u0) (hg5 : TabF Z 5 .u64 Lib.pow10Tab) (hg1 : ErrR Z 1) (hg2 : ErrR Z 2) (hZ : Z.on w) {K : Bool → Prop} (hp : LBack_vc u0 K) : Calls Tryz.prog 5 #[.slice ao1 u0.length cap2] w fun e w' => ∃ r : Bool, e = .returned (.bool r) ∧ K r ∧ Below w.heap.size w w' := by
 refine enter0 Tryz.func5 rfl rfl (by kernel_rfl) ?_; intro a0 R; have C := Mem.start w Z hZ
 have a8 := hp (hs3.small)
 refine sqB R C [] [] [] ?_; intro a6 S
 refine sqH ?_; intro ba U
 refine s1 S 13 (.slice ao1 u0.length cap2) ?_; intro a9 V
 obtain ⟨bb, D⟩ := a8
 refine fc V C (tprint_fun u0 bb ao1 cap2 _ _ hs3 hg5 C.fz) ?_; intro bO bP W E
 refine bt W E 5 [] [] [(3, str (printS u0).1), (4, i6 (printS u0).2)] ?_; intro bQ X
 apply U
 refine s_ (sqH ?_); intro bc Y
 refine fc X E (traced_fun  _ _ hg5 hg1 hg2 E.fz) ?_; intro bR bS aa h
 refine bt aa h 10 [] [20, 21, 22] [(27, .bool (((printS u0).2 != 0) || (decide (((printS u0).1.length : Int) > 40000))))] ?_; intro bT y
 apply Y
 refine cd y (t := ((printS u0).2 != 0) || (decide (((printS u0).1.length : Int) > 40000))) (by kernel_rfl) (fun I => ?_) (fun I => ?_)
 · -- yes
  have bd := D.1 I
  refine sqH ?_; intro be ab
  refine fc y h (traced_fun  _ _ hg5 hg1 hg2 h.fz) ?_; intro bU bV ac bf
  refine s1 ac 2 (.bool true) ?_; intro bW bg
  apply ab
  exact r_ (h_ (ra1 bg (.bool true) ⟨true, rfl, bd, bf.below⟩))
 · -- no
  have bh := D.2 I
  refine k_ (sqH ?_); intro bi ad
  refine s1 y 30 (str (printS u0).1) ?_; intro bX ae
  obtain ⟨bk, af⟩ := bh
  refine ck ae 11 #[str (printS u0).1] ?_
  refine (tparse_fun (printS u0).1 bk _ _ hg5 hg1 hg2 h.fz).mono ?_; rintro _ bl ⟨d, f, bm, rfl, p, hm⟩; refine ⟨_, rfl, ?_⟩; intro bY ag; have ah := h.callZ hm; have z := hm.ext.le
  replace hs3 := hs3.mono z
  have F : Mem w.heap.size [] w Z [] bm bl := ah
  have ai := af (p.small)
  refine bt ag F 7 [] [] [(4, i6 (parseS (printS u0).1).2.2), (5, .slice d (parseS (printS u0).1).1.length f), (6, i6 (parseS (printS u0).1).2.1)] ?_; intro bZ aj
  apply ad
  refine sqH ?_; intro bn ak
  refine s1 aj 36 (.slice ao1 u0.length cap2) ?_; intro b0 al
  refine ck al 6 #[.slice ao1 u0.length cap2] ?_
  refine (ttally_fun u0 ao1 cap2 _ _ hs3 F.fz).mono ?_; rintro _ am ⟨i, j, bo, rfl, hm⟩; refine ⟨_, rfl, ?_⟩; intro b1 an; have ao := F.callZ hm; have q := hm.ext.le
  replace hs3 := hs3.mono q
  replace p := p.mono q
  have A : Mem w.heap.size [] w Z [.own (tyFlat (fun x : Int × Int × Int × Int × Int => [i6 x.1, i6 x.2.1, i6 x.2.2.1, i6 x.2.2.2.1, i6 x.2.2.2.2]) 5 (fun _ => rfl) (fun x => by simp [Value.oneCell'])) 38 i j (tallyS u0).1] bo am := ao
  have bp := ai (A.ownSmall 0 rfl)
  refine bt an A 5 [] [] [(7, .slice i (tallyS u0).1.length j), (8, i6 (tallyS u0).2)] ?_; intro b2 ap
  apply ak
  refine sqB ap A [] [] [(9, i6 0)] ?_; intro b3 aq
  refine s_ (sqB aq A [] [] [(40, .slice i (tallyS u0).1.length j), (41, i6 ((tallyS u0).1.length : Int)), (42, i6 0)] ?_); intro ar au
  apply b_
  have av : Fr 72 [] [⟨0, [], .slice ao1 u0.length cap2⟩, ⟨4, [], i6 (parseS (printS u0).1).2.2⟩, ⟨5, [], .slice d (parseS (printS u0).1).1.length f⟩, ⟨6, [], i6 (parseS (printS u0).1).2.1⟩, ⟨8, [], i6 (tallyS u0).2⟩, ⟨9, [], i6 0⟩, ⟨40, [], .slice i (tallyS u0).1.length j⟩, ⟨41, [], i6 ((tallyS u0).1.length : Int)⟩, ⟨42, [], i6 0⟩] ar := au.reg
  obtain ⟨G, u, aw, bq⟩ := A.freeze 0 rfl
  replace hs3 := hs3.mono u
  replace p := p.mono u
  have ax : Mem w.heap.size [] w Z [] G am := aw
  have ay : Fr 72 [] [⟨0, [], .slice ao1 u0.length cap2⟩, ⟨4, [], i6 (parseS (printS u0).1).2.2⟩, ⟨5, [], .slice d (parseS (printS u0).1).1.length f⟩, ⟨6, [], i6 (parseS (printS u0).1).2.1⟩, ⟨8, [], i6 (tallyS u0).2⟩, ⟨9, [], i6 0⟩, ⟨40, [], .slice i (tallyS u0).1.length j⟩, ⟨41, [], i6 ((tallyS u0).1.length : Int)⟩, ⟨42, [], i6 0⟩] ar := av.reg
  obtain ⟨br, bs, bu, bv⟩ := bp
  refine lp (ι := Int × Int) (fun s => [⟨0, [], .slice ao1 u0.length cap2⟩, ⟨4, [], i6 (parseS (printS u0).1).2.2⟩, ⟨5, [], .slice d (parseS (printS u0).1).1.length f⟩, ⟨6, [], i6 (parseS (printS u0).1).2.1⟩, ⟨8, [], i6 (tallyS u0).2⟩, ⟨9, [], i6 s.1⟩, ⟨40, [], .slice i (tallyS u0).1.length j⟩, ⟨41, [], i6 ((tallyS u0).1.length : Int)⟩, ⟨42, [], i6 s.2⟩]) (fun s => []) (fun s => G) (fun s => br s.1 s.2) (fun s => bs s.1 s.2) ⟨0, 0⟩ bu (by exact ay.region (by kernel_rfl) (by kernel_rfl)) (by exact ax) ?_
  rintro ⟨c, l⟩ bw bx bz az aA
  have H := bv c l bw
  refine sqB az aA [] [] [(43, .bool (decide (l < ((tallyS u0).1.length : Int))))] ?_; intro b4 B
  apply s_
  refine cd B (t := decide (l < ((tallyS u0).1.length : Int))) (by kernel_rfl) (fun J => ?_) (fun J => ?_)
  · -- yes
   have bA := H.1 J
   refine k_ (s_ (b_ (sqH ?_))); intro bB aC
   obtain ⟨bC, aD⟩ := bA
   refine ix_ B bq l bC .i64 38 40 ?_; intro b5 b6 bD a b7 bE bF bG aE
   have aF := aD a bE
   obtain rfl : bD = ([i6 a.1, i6 a.2.1, i6 a.2.2.1, i6 a.2.2.2.1, i6 a.2.2.2.2] : List Value) := bG
   refine z2 aE aA 45 bF 0 5 [i6 a.1, i6 a.2.1, i6 a.2.2.1, i6 a.2.2.2.1, i6 a.2.2.2.2] rfl ?_; intro b8 aG
   refine nw aG aA pb [i6 0, i6 0, i6 0, i6 0, i6 0] 38 ?_; intro bH b9 ca L aH
   refine sx L aH 0 [i6 a.1, i6 a.2.1, i6 a.2.2.1, i6 a.2.2.2.1, i6 a.2.2.2.2] 0 ?_; intro bI aI
   have M : Mem w.heap.size [] w Z [.row bH [i6 a.1, i6 a.2.1, i6 a.2.2.1, i6 a.2.2.2.1, i6 a.2.2.2.2] 38] G bI := aI
   apply aC
   refine rgB L M [0] [] [(9, i6 (w64 (c + a.2.2.1)))] ?_; intro cb aJ
   refine j_ (t_ (rgB aJ M [] [] [(42, i6 (w64 (l + 1)))] ?_)); intro cc bJ
   exact d_ ⟨⟨w64 (c + a.2.2.1), w64 (l + 1)⟩, aF.1, aF.2, (bJ.region (by kernel_rfl) (by kernel_rfl)).anyβ _ (by kernel_rfl), M.kp⟩
  · -- no
   have bK := H.2 J
   refine x_ (y_ (y_ (z_ (t_ (sqH ?_))))); intro bL aK
   refine s1 B 51 (i6 (parseS (printS u0).1).2.2) ?_; intro ce aL
   refine s1 aL 52 (.bool ((parseS (printS u0).1).2.2 == 0)) ?_; intro cf aM
   refine s1 aM 53 (.bool ((parseS (printS u0).1).2.2 == 0)) ?_; intro cg aN
   have aO := aN.atom (((parseS (printS u0).1).2.2 == 0) == true) (by kernel_rfl)
   refine gp aO 54 0 [] ((parseS (printS u0).1).2.2 == 0) (i6 (tallyS u0).2) rfl rfl ?_; intro ch aP
   refine gp aP 55 0 [] ((parseS (printS u0).1).2.2 == 0) (.bool ((tallyS u0).2 == 0)) rfl rfl ?_; intro ci N
   refine u_ N (.bool (((parseS (printS u0).1).2.2 == 0) && ((tallyS u0).2 == 0))) (pk_and N (g := []) (m := 0) (b := (parseS (printS u0).1).2.2 == 0) (v := (tallyS u0).2 == 0) rfl (by kernel_rfl) (by kernel_rfl) (by kernel_rfl) rfl) ?_; intro cl aQ
   refine s1 aQ 57 (.bool (((parseS (printS u0).1).2.2 == 0) && ((tallyS u0).2 == 0))) ?_; intro cm aR
   have aS := aR.atom ((((parseS (printS u0).1).2.2 == 0) && ((tallyS u0).2 == 0)) == true) (by kernel_rfl)
   refine gp aS 58 1 [] (((parseS (printS u0).1).2.2 == 0) && ((tallyS u0).2 == 0)) (i6 (parseS (printS u0).1).2.1) rfl rfl ?_; intro cn aT
   refine gp aT 59 1 [] (((parseS (printS u0).1).2.2 == 0) && ((tallyS u0).2 == 0)) (.bool ((parseS (printS u0).1).2.1 == 0)) rfl rfl ?_; intro co O
   refine u_ O (.bool ((((parseS (printS u0).1).2.2 == 0) && ((tallyS u0).2 == 0)) && ((parseS (printS u0).1).2.1 == 0))) (pk_and O (g := []) (m := 1) (b := ((parseS (printS u0).1).2.2 == 0) && ((tallyS u0).2 == 0)) (v := (parseS (printS u0).1).2.1 == 0) rfl (by kernel_rfl) (by kernel_rfl) (by kernel_rfl) rfl) ?_; intro cp aU
   refine s1 aU 61 (.bool ((((parseS (printS u0).1).2.2 == 0) && ((tallyS u0).2 == 0)) && ((parseS (printS u0).1).2.1 == 0))) ?_; intro cq aV
   have aW := aV.atom (((((parseS (printS u0).1).2.2 == 0) && ((tallyS u0).2 == 0)) && ((parseS (printS u0).1).2.1 == 0)) == true) (by kernel_rfl)
   refine gp aW 62 2 [] ((((parseS (printS u0).1).2.2 == 0) && ((tallyS u0).2 == 0)) && ((parseS (printS u0).1).2.1 == 0)) (.slice ao1 u0.length cap2) rfl rfl ?_; intro cr aX
   refine gp aX 63 2 [] ((((parseS (printS u0).1).2.2 == 0) && ((tallyS u0).2 == 0)) && ((parseS (printS u0).1).2.1 == 0)) (.slice d (parseS (printS u0).1).1.length f) rfl rfl ?_; intro cs aY
   refine gcl aY aA (.bool (slinesS u0 (parseS (printS u0).1).1)) 14 #[.slice ao1 u0.length cap2, .slice d (parseS (printS u0).1).1.length f] (m := 2) (cj := []) (bj := (((parseS (printS u0).1).2.2 == 0) && ((tallyS u0).2 == 0)) && ((parseS (printS u0).1).2.1 == 0)) rfl rfl (by kernel_rfl) rfl (by kernel_rfl) (by kernel_rfl) (by kernel_rfl) (fun _ => by kernel_rfl) (fun hg => slines_fun u0 (parseS (printS u0).1).1 ao1 cap2 d f _ _ hs3 p aA.fz) ?_; intro ct cu P bM
   refine u_ P (.bool (((((parseS (printS u0).1).2.2 == 0) && ((tallyS u0).2 == 0)) && ((parseS (printS u0).1).2.1 == 0)) && (slinesS u0 (parseS (printS u0).1).1))) (pk_and P (g := []) (m := 2) (b := (((parseS (printS u0).1).2.2 == 0) && ((tallyS u0).2 == 0)) && ((parseS (printS u0).1).2.1 == 0)) (v := (slinesS u0 (parseS (printS u0).1).1)) rfl (by kernel_rfl) (by kernel_rfl) (by kernel_rfl) rfl) ?_; intro cv aZ
   refine s1 aZ 66 (.bool (((((parseS (printS u0).1).2.2 == 0) && ((tallyS u0).2 == 0)) && ((parseS (printS u0).1).2.1 == 0)) && (slinesS u0 (parseS (printS u0).1).1))) ?_; intro cw a1
   have a2 := a1.atom ((((((parseS (printS u0).1).2.2 == 0) && ((tallyS u0).2 == 0)) && ((parseS (printS u0).1).2.1 == 0)) && (slinesS u0 (parseS (printS u0).1).1)) == true) (by kernel_rfl)
   refine gp a2 67 3 [] (((((parseS (printS u0).1).2.2 == 0) && ((tallyS u0).2 == 0)) && ((parseS (printS u0).1).2.1 == 0)) && (slinesS u0 (parseS (printS u0).1).1)) (i6 c) rfl rfl ?_; intro cx a3
   refine gp a3 68 3 [] (((((parseS (printS u0).1).2.2 == 0) && ((tallyS u0).2 == 0)) && ((parseS (printS u0).1).2.1 == 0)) && (slinesS u0 (parseS (printS u0).1).1)) (.slice ao1 u0.length cap2) rfl rfl ?_; intro cy a4
   refine gp a4 69 3 [] (((((parseS (printS u0).1).2.2 == 0) && ((tallyS u0).2 == 0)) && ((parseS (printS u0).1).2.1 == 0)) && (slinesS u0 (parseS (printS u0).1).1)) (i6 (u0.length : Int)) rfl rfl ?_; intro cz a5
   refine gp a5 70 3 [] (((((parseS (printS u0).1).2.2 == 0) && ((tallyS u0).2 == 0)) && ((parseS (printS u0).1).2.1 == 0)) && (slinesS u0 (parseS (printS u0).1).1)) (.bool (c == (u0.length : Int))) rfl rfl ?_; intro cA Q
   refine u_ Q (.bool ((((((parseS (printS u0).1).2.2 == 0) && ((tallyS u0).2 == 0)) && ((parseS (printS u0).1).2.1 == 0)) && (slinesS u0 (parseS (printS u0).1).1)) && (c == (u0.length : Int)))) (pk_and Q (g := []) (m := 3) (b := ((((parseS (printS u0).1).2.2 == 0) && ((tallyS u0).2 == 0)) && ((parseS (printS u0).1).2.1 == 0)) && (slinesS u0 (parseS (printS u0).1).1)) (v := c == (u0.length : Int)) rfl (by kernel_rfl) (by kernel_rfl) (by kernel_rfl) rfl) ?_; intro cB a7
   refine s1 a7 2 (.bool ((((((parseS (printS u0).1).2.2 == 0) && ((tallyS u0).2 == 0)) && ((parseS (printS u0).1).2.1 == 0)) && (slinesS u0 (parseS (printS u0).1).1)) && (c == (u0.length : Int)))) ?_; intro cC bN
   apply aK
   exact r_ (ra1 bN (.bool ((((((parseS (printS u0).1).2.2 == 0) && ((tallyS u0).2 == 0)) && ((parseS (printS u0).1).2.1 == 0)) && (slinesS u0 (parseS (printS u0).1).1)) && (c == (u0.length : Int)))) ⟨(((((parseS (printS u0).1).2.2 == 0) && ((tallyS u0).2 == 0)) && ((parseS (printS u0).1).2.1 == 0)) && (slinesS u0 (parseS (printS u0).1).1)) && (c == (u0.length : Int)), rfl, bK, bM.below⟩)

end Go.Proofs.YtdenmllkjdijlaaGreatDoor
