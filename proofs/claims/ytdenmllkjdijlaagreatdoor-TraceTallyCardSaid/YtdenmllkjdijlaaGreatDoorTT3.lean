/- Texts put together (pure ones, or walks made by program). -/
import Derived.Test.YtdenmllkjdijlaaGreatDoorTT0
import Derived.Test.YtdenmllkjdijlaaGreatDoorTT1
import Derived.Test.YtdenmllkjdijlaaGreatDoorTT2
import Derived.WalkKit
import Derived.Deep.QuietTactic
import Derived.BigQuiet
import Derived.Shelf.SlSortCmp.NoneTotal
import Derived.Shelf.SlGeneric
import Derived.Ground.SlsfProg
import Derived.Shelf.Lay
import Derived.Ground.NamesProg
import Derived.Shelf.Sort.Plain
import Derived.Shelf.Slices.In.SortNone
import Derived.Stop.LaidErr
namespace Go.Proofs
open Go.Shelf
def Tryz.laysF19_ren : Go.Shelf.Ren := ⟨fun | 6 => 19 | 15 => 23 | 14 => 41 | 28 => 53 | 29 => 54 | 20 => 81 | 21 => 82 | 22 => 83 | 23 => 84 | 24 => 85 | 25 => 86 | 26 => 87 | 27 => 88 | 46 => 125 | 47 => 91 | 48 => 92 | 49 => 126 | 50 => 127 | 57 => 148 | n => n, fun | 22 => 51 | 24 => 53 | 25 => 58 | 3 => 3 | 39 => 62 | 0 => 0 | 53 => 97 | 55 => 99 | 4 => 4 | 46 => 90 | 45 => 89 | 50 => 65 | 5 => 5 | 9 => 9 | 66 => 129 | 70 => 133 | 76 => 158 | 77 => 159 | n => n, fun | n => n⟩
theorem Tryz.laysF19 : Go.Proofs.SlLaysF.n6 Tryz.prog Tryz.laysF19_ren := {
  mixed := by kernel_rfl
  f6 := ⟨Tryz.f19.name, by decide, Tryz.func19.trans (congrArg some (by kernel_rfl))⟩
  f14 := ⟨Tryz.f41.name, by decide, Tryz.func41.trans (congrArg some (by kernel_rfl))⟩
  f15 := Tryz.func23.trans (congrArg some (by kernel_rfl))
  f20 := ⟨Tryz.f81.name, by decide, Tryz.func81.trans (congrArg some (by kernel_rfl))⟩
  f21 := ⟨Tryz.f82.name, by decide, Tryz.func82.trans (congrArg some (by kernel_rfl))⟩
  f22 := ⟨Tryz.f83.name, by decide, Tryz.func83.trans (congrArg some (by kernel_rfl))⟩
  f23 := ⟨Tryz.f84.name, by decide, Tryz.func84.trans (congrArg some (by kernel_rfl))⟩
  f24 := ⟨Tryz.f85.name, by decide, Tryz.func85.trans (congrArg some (by kernel_rfl))⟩
  f25 := ⟨Tryz.f86.name, by decide, Tryz.func86.trans (congrArg some (by kernel_rfl))⟩
  f26 := ⟨Tryz.f87.name, by decide, Tryz.func87.trans (congrArg some (by kernel_rfl))⟩
  f27 := ⟨Tryz.f88.name, by decide, Tryz.func88.trans (congrArg some (by kernel_rfl))⟩
  f28 := Tryz.func53.trans (congrArg some (by kernel_rfl))
  f29 := Tryz.func54.trans (congrArg some (by kernel_rfl))
  f46 := ⟨Tryz.f125.name, by decide, Tryz.func125.trans (congrArg some (by kernel_rfl))⟩
  f47 := Tryz.func91.trans (congrArg some (by kernel_rfl))
  f48 := Tryz.func92.trans (congrArg some (by kernel_rfl))
  f49 := ⟨Tryz.f126.name, by decide, Tryz.func126.trans (congrArg some (by kernel_rfl))⟩
  f50 := ⟨Tryz.f127.name, by decide, Tryz.func127.trans (congrArg some (by kernel_rfl))⟩
  f57 := ⟨Tryz.f148.name, by decide, Tryz.func148.trans (congrArg some (by kernel_rfl))⟩
  t0 := Tryz.underlying0
  a0 := Tryz.isAgg0
  z0 := Tryz.sizeOf0
  v0 := Tryz.zeroValue0
  t3 := Tryz.underlying3
  a3 := Tryz.isAgg3
  z3 := Tryz.sizeOf3
  v3 := Tryz.zeroValue3
  t4 := Tryz.underlying4
  a4 := Tryz.isAgg4
  z4 := Tryz.sizeOf4
  v4 := Tryz.zeroValue4
  t5 := Tryz.underlying5
  a5 := Tryz.isAgg5
  z5 := Tryz.sizeOf5
  v5 := Tryz.zeroValue5
  t9 := Tryz.underlying9
  a9 := Tryz.isAgg9
  z9 := Tryz.sizeOf9
  v9 := Tryz.zeroValue9
  t22 := Tryz.underlying51
  a22 := Tryz.isAgg51
  z22 := Tryz.sizeOf51
  v22 := Tryz.zeroValue51
  a24 := Tryz.isAgg53
  z24 := Tryz.sizeOf53
  t25 := Tryz.underlying58
  a25 := Tryz.isAgg58
  z25 := Tryz.sizeOf58
  v25 := Tryz.zeroValue58
  t39 := Tryz.underlying62
  a39 := Tryz.isAgg62
  z39 := Tryz.sizeOf62
  v39 := Tryz.zeroValue62
  t45 := Tryz.underlying89
  a45 := Tryz.isAgg89
  z45 := Tryz.sizeOf89
  v45 := Tryz.zeroValue89
  t46 := Tryz.underlying90
  a46 := Tryz.isAgg90
  z46 := Tryz.sizeOf90
  v46 := Tryz.zeroValue90
  t50 := Tryz.underlying65
  a50 := Tryz.isAgg65
  z50 := Tryz.sizeOf65
  v50 := Tryz.zeroValue65
  t53 := Tryz.underlying97
  a53 := Tryz.isAgg97
  z53 := Tryz.sizeOf97
  v53 := Tryz.zeroValue97
  t55 := Tryz.underlying99
  a55 := Tryz.isAgg99
  z55 := Tryz.sizeOf99
  v55 := Tryz.zeroValue99
  t66 := Tryz.underlying129
  a66 := Tryz.isAgg129
  z66 := Tryz.sizeOf129
  v66 := Tryz.zeroValue129
  t70 := Tryz.underlying133
  a70 := Tryz.isAgg133
  z70 := Tryz.sizeOf133
  v70 := Tryz.zeroValue133
  t76 := Tryz.underlying158
  a76 := Tryz.isAgg158
  z76 := Tryz.sizeOf158
  v76 := Tryz.zeroValue158
  t77 := Tryz.underlying159
  a77 := Tryz.isAgg159
  z77 := Tryz.sizeOf159
  v77 := Tryz.zeroValue159 }
end Go.Proofs
set_option linter.unusedVariables false
set_option linter.unusedSimpArgs false
set_option linter.defProp false
set_option maxRecDepth 100000
set_option maxHeartbeats 0
namespace Go.Proofs.YtdenmllkjdijlaaGreatDoor
open Go.Sy Go.RowKit
abbrev e36Tb (X : Line) (A0 : Option Addr) (C0 : Nat) : List Value := [i6 X.Time, i6 X.Bus, i6 X.F.ID, .bool X.F.Long, .bool X.F.Fast, .bool X.F.Remote, i6 X.F.Size, .slice A0 X.F.Data.length C0]
abbrev e55Tb (X : Tally) : List Value := [i6 X.bus, i6 X.id, .bool X.long, i6 X.n, i6 X.first, i6 X.last, i6 X.low, i6 X.high]
def tidxf_fun (u0 : List Tally) (u1 : Tally → Bool) (ao1 : Option Addr) (cap2 : Nat) (fid4 : Nat) (caps5 : Array Value) (Z : Fz) (w : World) (hs3 : SlR (tyPt tyTally) Z ao1 cap2 u0) (hf6 : ∀ (Z1 : Fz) (w1 : World), Z.le Z1 → Z1.on w1 → ∀ (x0 : Tally) (xb0 xo0 : Nat), PtR Z1 xb0 xo0 [i6 x0.bus, i6 x0.id, .bool x0.long, i6 x0.n, i6 x0.first, i6 x0.last, i6 x0.low, i6 x0.high] → Calls Tryz.prog fid4 (#[pt xb0 xo0] ++ caps5) w1 fun e w2 => e = .returned (.bool (u1 x0)) ∧ Below w1.heap.size w1 w2) (hg7 : ∀ x w, Sem.run Tryz.prog (callFunc fid4 x) w = .ok (.enter fid4 x) w) (hZ : Z.on w) := f_ (tidxf_walk u0 u1 ao1 cap2 fid4 caps5 Z w hs3 hf6 hg7 hZ (tidxf_ok u0 u1))
open Go.Sort in
theorem tsrt_swo {xs : List Tally} (_ : tsrtPre xs) : Go.Sort.SWO (Go.Proofs.ltOf fun (x y : {x // x ∈ xs}) => tcf x.1 y.1) := by
  -- by hand
  refine ⟨fun x => ?_, fun x y z h k => ?_, fun x y z h k => ?_⟩
  · show decide (tcf x.1 x.1 < 0) = false
    rw [tcf_self]; rfl
  · unfold Go.Proofs.ltOf at *
    rw [decide_eq_true_eq] at *
    rw [tcf_lt] at *
    cases ha : x.1.long <;> cases hb : y.1.long <;> cases hc : z.1.long <;> simp [ha, hb, hc] at * <;> omega
  · unfold Go.Proofs.ltOf at *
    rw [decide_eq_false_iff_not] at *
    exact (tcf_le _ _).1 (tcf_le_trans _ _ _ ((tcf_le _ _).2 k) ((tcf_le _ _).2 h))

section sortP
open Go.Sort Go.Shelf Go.RowKit
theorem srt_block {β : Type} [Inhabited β] (enc' : β → Value) (w : World) (blk n : Nat) (d : Array β) (os : Array Obj) (cur : Array Value) (e : TypeId) (fr : Nat × Nat) (h : w.heap[blk]? = some (.cells cur e fr)) : (sortWorld enc' w blk 0 n d os).heap[blk]? = some (.cells (putCells enc' 0 d cur) e fr) := by
  -- by hand
  have hl := (Array.getElem?_eq_some_iff.1 h).1
  have hl' : blk < (w.heap.modify blk (onCells (putCells enc' 0 d))).size := by rw [Array.size_modify]; exact hl
  show (w.heap.modify blk (onCells (putCells enc' 0 d)) ++ os)[blk]? = _
  rw [Array.getElem?_append, if_pos hl', Array.getElem?_modify, if_pos rfl, h]
  rfl
theorem srt_grown {β : Type} [Inhabited β] (enc' : β → Value) (w : World) (blk n : Nat) (d : Array β) (os : Array Obj) : w.grownBy (sortWorld enc' w blk 0 n d os) (some blk) := by
  -- by hand
  refine ⟨rfl, rfl, rfl, ?_, fun k hk hne => ?_⟩
  · show w.heap.size ≤ (w.heap.modify blk _ ++ os).size
    rw [Array.size_append, Array.size_modify]
    omega
  · have hl' : k < (w.heap.modify blk (onCells (putCells enc' 0 d))).size := by rw [Array.size_modify]; exact hk
    show (w.heap.modify blk (onCells (putCells enc' 0 d)) ++ os)[k]? = _
    rw [Array.getElem?_append, if_pos hl', Array.getElem?_modify, if_neg (fun h => hne (by rw [h]))]
theorem srt_cells {β : Type} [Inhabited β] (enc' : β → Value) (d : List β) (cur : Array Value) (cap : Nat) (hc : cur.size = cap) (hd : d.length ≤ cap) : ((putCells enc' 0 d.toArray cur).toList.take d.length) = d.map enc' := by
  -- by hand
  apply List.ext_getElem?
  intro k
  rw [List.getElem?_take, List.getElem?_map]
  by_cases hk : k < d.length
  · rw [if_pos hk, List.getElem?_eq_getElem hk, Array.getElem?_toList]
    unfold putCells
    rw [Array.getElem?_mapIdx, Array.getElem?_eq_getElem (by omega), Option.map_some, Option.map_some, if_pos ⟨by omega, by simpa using hk⟩]
    congr 1
    simp [hk]
  · rw [if_neg hk, List.getElem?_eq_none (by omega)]
    rfl
variable {α : Type} {enc : α → List Value} {t e : TypeId} {gp : List (Nat × α)} {xs : List α} {cf : α → α → Int} {P : Program} {B : Nat} {w0 w : World} {Z0 Z : Fz} {R : List Res}
theorem sortP {fid g : Nat} {cb : Array Value} {ao : Option Addr} {cap : Nat} (hM : Mem B [] w0 Z0 R Z w) (i : Nat) (hi : R[i]? = some (.own tyRp e ao cap (gp.map (·.1)))) (hx : gp.map (·.2) = xs)
    (hr : ∀ p ∈ gp, Res.row p.1 (enc p.2) t ∈ R) (hO : SWO (ltOf fun (x y : {x // x ∈ xs}) => cf x.1 y.1))
    (h1 : ∀ (β : Type) [Inhabited β] (enc' : β → Value) (_ : OneCell enc') (cf' : β → β → Int) (_ : SWO (ltOf cf')) (blk off cap : Nat) (d : Array β) (w : World), CmpLays1 P g cb enc' cf' blk off d.size w → Holds enc' w blk off d → blk < w.heap.size → d.size < 4611686018427387904 →
      Calls P fid #[.slice (some ⟨blk, off, none⟩) d.size cap, .func (.func g) #[] cb] w fun e w' => e = .returned (.tuple #[]) ∧ ∃ d' n os, PermIn 0 d.size d d' ∧ SortedIn (ltOf cf') 0 d.size d' ∧ w' = sortWorld enc' w blk off n d' os)
    (h2 : ∀ (p : Option Addr) (cap : Nat) (fv : Value) (w : World), Calls P fid #[.slice p 0 cap, fv] w fun e w' => e = .returned (.tuple #[]) ∧ w' = w)
    (hc : ∀ (W : World) (x y : α) (b c : Nat), x ∈ xs → y ∈ xs → W.heap[b]? = some (.cells (enc x).toArray t (0, 0)) → W.heap[c]? = some (.cells (enc y).toArray t (0, 0)) →
      Calls P g (#[.pointer (some ⟨b, 0, none⟩), .pointer (some ⟨c, 0, none⟩)] ++ cb) W fun e w' => e = .returned (.int .i64 (cf x y)) ∧ ∃ q os', w' = grow (W.drewN q) os') :
    Calls P fid #[.slice ao xs.length cap, .func (.func g) #[] cb] w fun e9 w' => e9 = .returned (.tuple #[]) ∧ ∃ gp' : List (Nat × α), gp.Perm gp' ∧ (gp'.map (·.2)).Pairwise (fun x y => ¬ cf y x < 0) ∧ Mem B [] w0 Z0 (R.set i (.own tyRp e ao cap (gp'.map (·.1)))) Z w' := by
  -- by hand
  have hres := hM.res _ (List.mem_of_getElem? hi)
  have hlen : xs.length = gp.length := by rw [← hx]; simp
  rw [hlen]
  have hset : R.set i (.own tyRp e ao cap (gp.map (·.1))) = R := set_self hi
  by_cases h0 : gp = []
  · subst h0
    exact (h2 ao cap _ w).mono fun _ _ ⟨ha, hb⟩ => ⟨ha, [], List.Perm.refl _, List.Pairwise.nil, by rw [hb, hset]; exact hM⟩
  obtain ⟨p0, hp0⟩ := List.exists_mem_of_ne_nil gp h0
  letI : Inhabited {p : Nat × α // p ∈ gp} := ⟨⟨p0, hp0⟩⟩
  obtain ⟨hn, hs, cells, ho, hrep⟩ := hres
  rcases ho.2 with ⟨_, hz⟩ | ⟨b, cap', cur, hv, hb, hg, hn2, hcap, hsz, htk⟩
  · exact absurd (by simpa using hz) h0
  cases hv
  have hbl := (Array.getElem?_eq_some_iff.1 hg).1
  have hfr : ∀ j, w.frozen? ⟨b, j, none⟩ = false := fun j => by simp [World.frozen?, hg]
  have hcell : ∀ j, ∀ h : j < gp.length, w.cell? ⟨b, j, none⟩ = some (.pointer (some ⟨gp[j].1, 0, none⟩)) := fun j h => by
    have h3 := own_elP (e := e) hM i hi j (b := gp[j].1) (q := gp[j].2) (List.getElem?_eq_getElem h)
    rwa [Nat.mul_one] at h3
  have hda : (gp.attach.toArray : Array {p : Nat × α // p ∈ gp}).size = gp.length := by simp
  have hH : Holds (fun p : {p : Nat × α // p ∈ gp} => Value.pointer (some ⟨p.1.1, 0, none⟩)) w b 0 gp.attach.toArray := by
    intro j hj
    rw [hda] at hj
    refine ⟨?_, hfr _⟩
    rw [Nat.zero_add, hcell j hj]
    congr 3
    simp [hj]
  have hmem : ∀ p : {p : Nat × α // p ∈ gp}, p.1.2 ∈ xs := fun p => hx ▸ List.mem_map.2 ⟨p.1, p.2, rfl⟩
  have hrow : ∀ p : {p : Nat × α // p ∈ gp}, w.heap[p.1.1]? = some (.cells (enc p.1.2).toArray t (0, 0)) ∧ p.1.1 ≠ b := fun p => by
    have hm := hr p.1 p.2
    refine ⟨(hM.res _ hm).2, fun h => ?_⟩
    have hP := List.pairwise_iff_getElem.1 hM.nd
    obtain ⟨j, hj, hje⟩ := List.mem_iff_getElem.1 hm
    obtain ⟨hi1, hi2⟩ := List.getElem?_eq_some_iff.1 hi
    have hne : j ≠ i := by rintro rfl; rw [hje] at hi2; cases hi2
    rcases Nat.lt_or_gt_of_ne hne with hl | hl
    · exact hP j i hj hi1 hl b (by rw [hje]; simp [Res.foot, h]) (by rw [hi2]; rfl)
    · exact hP i j hi1 hj hl b (by rw [hi2]; rfl) (by rw [hje]; simp [Res.foot, h])
  have hcmp : CmpLays1 P g cb (fun p : {p : Nat × α // p ∈ gp} => Value.pointer (some ⟨p.1.1, 0, none⟩)) (fun p q => cf p.1.2 q.1.2) b 0 (gp.attach.toArray : Array {p : Nat × α // p ∈ gp}).size w := by
    intro m os dk hs x y
    have hk : ∀ p : {p : Nat × α // p ∈ gp}, (sortWorld (fun p : {p : Nat × α // p ∈ gp} => Value.pointer (some ⟨p.1.1, 0, none⟩)) w b 0 m dk os).heap[p.1.1]? = some (.cells (enc p.1.2).toArray t (0, 0)) := fun p => by
      rw [(srt_grown _ w b m dk os).block _ (Array.getElem?_eq_some_iff.1 (hrow p).1).1 (fun h => (hrow p).2 (by simpa using h))]
      exact (hrow p).1
    exact hc _ _ _ _ _ (hmem x) (hmem y) (hk x) (hk y)
  have hO' : SWO (ltOf fun (p q : {p : Nat × α // p ∈ gp}) => cf p.1.2 q.1.2) :=
    ⟨fun p => hO.irrefl ⟨p.1.2, hmem p⟩, fun p q r => hO.trans ⟨p.1.2, hmem p⟩ ⟨q.1.2, hmem q⟩ ⟨r.1.2, hmem r⟩, fun p q r => hO.ntrans ⟨p.1.2, hmem p⟩ ⟨q.1.2, hmem q⟩ ⟨r.1.2, hmem r⟩⟩
  have hsmall : (gp.attach.toArray : Array {p : Nat × α // p ∈ gp}).size < 4611686018427387904 := by
    rw [hda]
    have h3 : gp.length ≤ lim := by simpa using hs
    have h4 : lim = 140737488355328 := rfl
    omega
  have hcall := h1 _ _ (fun _ => by simp [Value.oneCell']) _ hO' b 0 cap gp.attach.toArray w hcmp hH hbl hsmall
  rw [hda] at hcall
  refine hcall.mono ?_
  rintro _ _ ⟨he, d', n, os, hp, hsrt, rfl⟩
  have hd' : d'.size = gp.length := by rw [hp.1, hda]
  have hperm : d'.toList.Perm gp.attach := by
    have h3 := hp.2.2
    have e1 : d'.extract 0 gp.length = d' := by rw [← hd']; exact Array.extract_size
    have e2 : (gp.attach.toArray : Array {p : Nat × α // p ∈ gp}).extract 0 gp.length = gp.attach.toArray := by
      have := Array.extract_size (xs := (gp.attach.toArray : Array {p : Nat × α // p ∈ gp}))
      rwa [hda] at this
    rw [e1, e2] at h3
    simpa using h3
  refine ⟨he, d'.toList.map (·.1), ?_, ?_, ?_⟩
  · have h3 := hperm.map (·.1)
    rw [List.attach_map_subtype_val] at h3
    exact h3.symm
  · rw [List.map_map, List.pairwise_map, List.pairwise_iff_getElem]
    intro x y hx1 hy1 hxy
    have h3 := hsrt x y (Nat.zero_le _) hxy (by simpa [hd'] using hy1)
    have gx : d'[x]! = d'.toList[x] := by
      have : x < d'.size := by simpa using hx1
      simp [this]
    have gy : d'[y]! = d'.toList[y] := by
      have : y < d'.size := by simpa using hy1
      simp [this]
    rw [gx, gy] at h3
    simpa [ltOf] using h3
  · refine hM.upd hi (srt_grown _ w b n d' os) _ ⟨hn, by simpa [hd'] using hs, d'.toList.map fun p => Value.pointer (some ⟨p.1.1, 0, none⟩), ⟨by simp [tyRp], .inr ⟨b, cap, _, by simp [hd'], hb, srt_block _ w b n d' os cur e _ hg, by simpa [hd'] using hn2, hcap, ?_, ?_⟩⟩, ?_⟩ (fun _ h => .inl h)
    · unfold putCells; rw [Array.size_mapIdx]; exact hsz
    · have h3 := srt_cells (fun p : {p : Nat × α // p ∈ gp} => Value.pointer (some ⟨p.1.1, 0, none⟩)) d'.toList cur (cap * 1) (by simpa [tyRp] using hsz) (by simp [hd']; simpa using hn2)
      simpa [tyRp] using h3
    · refine ⟨by simp [tyRp], fun j x hj => ?_⟩
      show List.take 1 (List.drop (j * 1) (d'.toList.map fun p => Value.pointer (some ⟨p.1.1, 0, none⟩))) = [Value.pointer (some ⟨x, 0, none⟩)]
      rw [List.map_map, List.getElem?_map, Option.map_eq_some_iff] at hj
      obtain ⟨p, hp3, rfl⟩ := hj
      have hj2 := (List.getElem?_eq_some_iff.1 hp3).1
      rw [Nat.mul_one, List.drop_eq_getElem_cons (by rw [List.length_map]; exact hj2), List.take_succ_cons, List.take_zero, List.getElem_map, (List.getElem?_eq_some_iff.1 hp3).2]
      rfl
end sortP

open Go.Sort Go.Shelf in
theorem tsrt_cmp {xs : List Tally} (hpre : tsrtPre xs) (W : World) (x y : Tally) (b c : Nat) (hx : x ∈ xs) (hy : y ∈ xs) (h1 : W.heap[b]? = some (.cells (Tally.enc x).toArray 55 (0, 0))) (h2 : W.heap[c]? = some (.cells (Tally.enc y).toArray 55 (0, 0))) :
    Calls Tryz.prog 20 (#[.pointer (some ⟨b, 0, none⟩), .pointer (some ⟨c, 0, none⟩)] ++ #[]) W fun e w' => e = .returned (.int .i64 (tcf x y)) ∧ ∃ q os', w' = grow (W.drewN q) os' := by
  -- by hand
  have c1 : ∀ (k : Nat) (v : Value), (Tally.enc x)[k]? = some v → W.cell? ⟨b, k, none⟩ = some v := fun k v h => by rw [cell_of_row W b _ _ _ _ h1]; simpa using h
  have c2 : ∀ (k : Nat) (v : Value), (Tally.enc y)[k]? = some v → W.cell? ⟨c, k, none⟩ = some v := fun k v h => by rw [cell_of_row W c _ _ _ _ h2]; simpa using h
  have b0 := c1 0 _ rfl; have b1 := c1 1 _ rfl; have b2 := c1 2 _ rfl
  have d0 := c2 0 _ rfl; have d1 := c2 1 _ rfl; have d2 := c2 2 _ rfl
  clear c1 c2 h1 h2
  have hp := hpre x hx
  have hq := hpre y hy
  have hw : ∀ (a b : Int), (0 ≤ a ∧ a ≤ 536870911) → (0 ≤ b ∧ b ≤ 536870911) → wrap64 (a - b) = a - b := fun a b h k => by unfold wrap64; omega
  have hend : ∀ q : Nat, ∃ r os', W.drewN q = grow (W.drewN r) os' := fun q => ⟨q, #[], (grow_empty _).symm⟩
  by_cases k1 : (x.bus != y.bus) = true
  · have w1 := hw x.bus y.bus (by omega) (by omega)
    have e1 : tcf x y = x.bus - y.bus := by unfold tcf; rw [if_pos (by simpa using k1)]
    rw [e1]
    go_enter Tryz.func20, Tryz.ntmps20
    go_wp2
    go_quiet (fail)
    go_wp2
    go_quiet (fail)
    go_wp2
    go_ret
    refine ⟨rfl, ?_⟩
    try simp only [World.drewN_drewN]
    exact hend _
  · have k1 : (x.bus != y.bus) = false := by simpa using k1
    have kb : x.bus = y.bus := by simpa using k1
    by_cases k2 : (x.long != y.long) = true
    · cases k3 : y.long with
      | true =>
        have e1 : tcf x y = -1 := by unfold tcf; rw [if_neg (by omega), if_pos (by simpa using k2), if_pos k3]
        rw [e1]
        have k4 : x.long = !y.long := by cases hh : x.long <;> simp [hh, k3] at k2 ⊢
        rw [k3] at d2 k2 k4
        rw [k4] at b2
        go_enter Tryz.func20, Tryz.ntmps20
        go_wp2
        go_quiet (fail)
        go_wp2
        go_quiet (fail)
        go_wp2
        go_ret
        refine ⟨rfl, ?_⟩
        try simp only [World.drewN_drewN]
        exact hend _
      | false =>
        have e1 : tcf x y = 1 := by unfold tcf; rw [if_neg (by omega), if_pos (by simpa using k2), if_neg (by rw [k3]; decide)]
        rw [e1]
        have k4 : x.long = !y.long := by cases hh : x.long <;> simp [hh, k3] at k2 ⊢
        rw [k3] at d2 k2 k4
        rw [k4] at b2
        go_enter Tryz.func20, Tryz.ntmps20
        go_wp2
        go_quiet (fail)
        go_wp2
        go_quiet (fail)
        go_wp2
        go_ret
        refine ⟨rfl, ?_⟩
        try simp only [World.drewN_drewN]
        exact hend _
    · have k2 : (x.long != y.long) = false := by simpa using k2
      have w1 := hw x.id y.id (by omega) (by omega)
      have e1 : tcf x y = x.id - y.id := by unfold tcf; rw [if_neg (by omega), if_neg (by simpa using k2)]
      rw [e1]
      go_enter Tryz.func20, Tryz.ntmps20
      go_wp2
      go_quiet (fail)
      go_wp2
      go_quiet (fail)
      go_wp2
      go_quiet (fail)
      go_wp2
      go_ret
      refine ⟨rfl, ?_⟩
      try simp only [World.drewN_drewN]
      exact hend _

open Go.Sort Go.Shelf in
theorem tsrt_call {gp : List (Nat × Tally)} {xs : List Tally} {ao : Option Addr} {cap : Nat} {e : TypeId} {B : Nat} {w0 w : World} {Z0 Z : Fz} {R : List Res} (hM : Mem B [] w0 Z0 R Z w) (i : Nat) (hi : R[i]? = some (.own tyRp e ao cap (gp.map (·.1)))) (hx : gp.map (·.2) = xs) (hr : ∀ p ∈ gp, Res.row p.1 (Tally.enc p.2) 55 ∈ R) (hpre : tsrtPre xs) :
    Calls Tryz.prog 19 #[.slice ao xs.length cap, .func (.func 20) #[] #[]] w fun e9 w' => e9 = .returned (.tuple #[]) ∧ ∃ gp' : List (Nat × Tally), gp.Perm gp' ∧ (gp'.map (·.2)).Pairwise (fun x y => ¬ tcf y x < 0) ∧ Mem B [] w0 Z0 (R.set i (.own tyRp e ao cap (gp'.map (·.1)))) Z w' := by
  -- by hand
  exact sortP hM i hi hx hr (tsrt_swo hpre) (fun β _ enc' h1 cf' hO blk off cap d w hC hH hb hs => Any.slices_SortFunc Tryz.laysF19 enc' h1 cf' hO 20 #[] blk off cap d w (enters_of Tryz.func20 (by kernel_rfl) rfl) hC hH hb hs)
    (fun p cap fv w => AnyF.slices_SortFunc_none { Tryz.laysF19 with } p cap fv w) (fun W x y b c h1 h2 h3 h4 => tsrt_cmp hpre W x y b c h1 h2 h3 h4)

theorem ttally_walk (u0 : List Line) (ao1 : Option Addr) (cap2 : Nat) (Z : Fz) (w : World) (hs3 : SlR tyLine Z ao1 cap2 u0) (hZ : Z.on w) {K : ((List (Int × Int × Int × Int × Int)) × Int) → Prop} (hp : ttally_vc u0 K) : Calls Tryz.prog 6 #[.slice ao1 u0.length cap2] w fun e w' => ∃ (r : (List (Int × Int × Int × Int × Int)) × Int) (ao1001 : Option Addr) (cap1002 : Nat) (Z' : Fz), e = .returned (.tuple #[.slice ao1001 r.1.length cap1002, i6 r.2]) ∧ K r ∧ Mem w.heap.size [] w Z [.own (tyFlat (fun x : Int × Int × Int × Int × Int => [i6 x.1, i6 x.2.1, i6 x.2.2.1, i6 x.2.2.2.1, i6 x.2.2.2.2]) 5 (fun _ => rfl) (fun x => by simp [Value.oneCell'])) 38 ao1001 cap1002 r.1] Z' w' := by
 refine enter0 Tryz.func6 rfl rfl (by kernel_rfl) ?_; intro a0 bm; have ag := Mem.start w Z hZ
 have ah := hp (hs3.small)
 refine sqB bm ag [] [] [] ?_; intro a8 bn
 refine s_ (sqH ?_); intro dN bo
 refine s1 bn 15 (.slice ao1 u0.length cap2) ?_; intro fp bp
 refine fc bp ag (tcheck_fun u0 ao1 cap2 _ _ hs3 ag.fz) ?_; intro fq bq br O
 refine s1 br 4 (i6 (checkS u0)) ?_; intro fr bs
 apply bo
 refine sqB bs O [] [] [(18, .bool ((checkS u0) != 0))] ?_; intro fs V
 refine c_ V ah (fun _ dO => ?_) fun _ dR => ?_
 ·
  refine sqB V O [] [] [(2, .slice none 0 0), (3, i6 (checkS u0))] ?_; intro ft dP
  refine r_ (h_ ?_)
  have dQ : Mem w.heap.size [] w Z [.own (tyFlat (fun x : Int × Int × Int × Int × Int => [i6 x.1, i6 x.2.1, i6 x.2.2.1, i6 x.2.2.2.1, i6 x.2.2.2.2]) 5 (fun _ => rfl) (fun x => by simp [Value.oneCell'])) 38 none 0 ([] : List (Int × Int × Int × Int × Int))] Z bq := O.addNil (tyFlat (fun x : Int × Int × Int × Int × Int => [i6 x.1, i6 x.2.1, i6 x.2.2.1, i6 x.2.2.2.1, i6 x.2.2.2.2]) 5 (fun _ => rfl) (fun x => by simp [Value.oneCell'])) 38 (by decide)
  exact ra2 dP (.tuple #[.slice none ([] : List (Int × Int × Int × Int × Int)).length 0, i6 (checkS u0)]) ⟨(([] : List (Int × Int × Int × Int × Int)), (checkS u0)), none, 0, Z, rfl, dO, dQ.kp⟩
 ·
  refine k_ (sqB V O [] [] [(5, .slice none 0 0)] ?_); intro fu bu
  refine s_ (sqB bu O [] [] [(20, .slice ao1 u0.length cap2), (21, i6 (u0.length : Int)), (22, i6 0)] ?_); intro bv bw
  apply b_
  have bx : Fr 139 [] [⟨5, [], .slice none 0 0⟩, ⟨20, [], .slice ao1 u0.length cap2⟩, ⟨21, [], i6 (u0.length : Int)⟩, ⟨22, [], i6 0⟩] bv := bw.reg
  have bz : Mem w.heap.size [] w Z ((.own tyRp 53 none 0 (([] : List (Nat × Tally)).map (·.1))) :: (hsP Tally.enc 55 ([] : List (Nat × Tally)) [])) Z bq := O.addNilP 53
  have bA : Fr 139 [] [⟨5, [], .slice none ([] : List Tally).length 0⟩, ⟨20, [], .slice ao1 u0.length cap2⟩, ⟨21, [], i6 (u0.length : Int)⟩, ⟨22, [], i6 0⟩] bv := bx.reg
  obtain ⟨dS, dT, dU, dV⟩ := dR
  refine lp (ι := (List Tally) × Int × (Option Addr) × Nat × (List (Nat × Tally)) × Fz) (fun s => [⟨5, [], .slice s.2.2.1 s.1.length s.2.2.2.1⟩, ⟨20, [], .slice ao1 u0.length cap2⟩, ⟨21, [], i6 (u0.length : Int)⟩, ⟨22, [], i6 s.2.1⟩]) (fun s => ((.own tyRp 53 s.2.2.1 s.2.2.2.1 (s.2.2.2.2.1.map (·.1))) :: (hsP Tally.enc 55 s.2.2.2.2.1 []))) (fun s => s.2.2.2.2.2) (fun s => dS s.1 s.2.1 ∧ s.2.2.2.2.1.map (·.2) = s.1 ∧ Fz.le Z s.2.2.2.2.2) (fun s => dT s.1 s.2.1) ⟨([] : List Tally), 0, none, 0, ([] : List (Nat × Tally)), Z⟩ ⟨dU, rfl, Fz.le.refl _⟩ (by exact bA.reg) (by exact bz) ?_
  rintro ⟨f, u, m, h, i, ai⟩ ⟨dW, M, N⟩ dX dY bB bC
  have aj := dV f u dW
  have X := hs3.mono N
  refine sqB bB bC [] [] [(23, .bool (decide (u < (u0.length : Int))))] ?_; intro fw Y
  refine s_ (c_ Y aj (fun _ dZ => ?_) fun _ eG => ?_)
  ·
   refine k_ (s_ (b_ (sqH ?_))); intro d0 bE
   obtain ⟨d1, bF⟩ := dZ
   refine ix_ Y X u d1 .i64 36 64 ?_; intro fx fy fA c fB d2 aE d3 bG
   have bH := bF c d2
   obtain ⟨ak, al, rfl, am⟩ := d3
   have an := bH (am.small)
   refine z2 bG bC 25 aE 0 8 (e36Tb c ak al) rfl ?_; intro fC bI
   refine nw bI bC pb [i6 0, i6 0, i6 0, .bool false, .bool false, .bool false, i6 0, .slice none 0 0] 36 ?_; intro z fD fE aF bJ
   refine sx aF bJ 0 (e36Tb c ak al) 0 ?_; intro bK bL
   have bM : Mem w.heap.size [] w Z ((.row z (e36Tb c ak al) 36) :: (.own tyRp 53 m h (i.map (·.1))) :: (hsP Tally.enc 55 i [])) ai bK := bL
   apply bE
   refine sqH ?_; intro d4 bN
   refine bt aF bM 2 [] [] [(26, .slice m f.length h), (27, .func (.func 18) #[] #[pt z 0])] ?_; intro fF bO
   obtain ⟨v, aa, bP, R⟩ := bM.freezeRow 0 rfl
   replace N := N.mono aa
   replace am := am.mono aa
   have aG : Mem w.heap.size [] w Z ((.own tyRp 53 m h (i.map (·.1))) :: (hsP Tally.enc 55 i [])) v bK := bP
   refine fc bO aG ((by obtain ⟨Z9, d5, d6, d7⟩ := aG.lendP (T := tyTally) (fun _ _ => rfl) 0 rfl M (by intro p hp; repeat first | exact hsP_mem hp | apply List.mem_cons_of_mem); exact tidxf_fun f (fun x0 => tal1 x0 c) m h 18 #[pt z 0] _ _ d7 (fun Z1 w1 h1 h2 => (fun Z1 w1 h1 h2 x0 m0 n0 s0 => tal1_fun x0 c m0 n0 z 0 ak al Z1 w1 s0 (R.mono h1) (SlR.mono am h1) h2) Z1 w1 (Fz.le.trans d5 h1) h2) (fun _ _ => by kernel_rfl) d6)) ?_; intro fG d8 bQ B
   refine s1 bQ 8 (i6 (tidxS f (fun x0 => tal1 x0 c))) ?_; intro fH bR
   apply bN
   refine s_ (sqB bR B [] [] [(30, .bool (decide ((tidxS f (fun x0 => tal1 x0 c)) < 0)))] ?_); intro fI ab
   refine c_ ab an (fun _ d9 => ?_) fun _ ef => ?_
   ·
    refine sqH ?_; intro ea bS
    refine bt ab B 2 [] [] [(31, .slice m f.length h), (32, pt z 1)] ?_; intro fJ bT
    refine z1 bT B 33 R 1 (i6 c.Bus) rfl ?_; intro fK bU
    refine bt bU B 2 [] [] [(35, pt z 2)] ?_; intro fL bV
    refine z1 bV B 36 R 2 (i6 c.F.ID) rfl ?_; intro fM bW
    refine bt bW B 2 [] [] [(38, pt z 3)] ?_; intro fN bX
    refine z1 bX B 39 R 3 (.bool c.F.Long) rfl ?_; intro fO bY
    refine s1 bY 40 (pt z 0) ?_; intro fP bZ
    refine z1 bZ B 41 R 0 (i6 c.Time) rfl ?_; intro fQ b0
    refine s1 b0 42 (.agg #[i6 c.Bus, i6 c.F.ID, .bool c.F.Long, i6 1, i6 0, i6 c.Time, i6 (-1), i6 (-1)]) ?_; intro fR b1
    refine nw b1 B pb [i6 c.Bus, i6 c.F.ID, .bool c.F.Long, i6 1, i6 0, i6 c.Time, i6 (-1), i6 (-1)] 55 ?_; intro G fS fT b2 b3
    refine nw b2 b3 (fun b => .slice (sm b) 1 1) [pt G 0] 53 ?_; intro aI fU fV b4 aJ
    obtain ⟨eb, b5⟩ := d9
    refine apP b4 aJ 2 (ao := m) (cap := h) (ao2 := (sm aI)) (cap2 := 1) (t := 51) (e := 53) (bytes := 8) M G (⟨c.Bus, c.F.ID, c.F.Long, 1, 0, c.Time, -1, -1⟩ : Tally) (nog rfl _) rfl (by kernel_rfl) rfl (by kernel_rfl) (by kernel_rfl) (by kernel_rfl) rfl (Src.row aJ 0 rfl (RepAll.one (T := tyRp) (x := G) rfl)) eb ?_; intro aq ar fW b6 b7 ec
    have ed : (i ++ [(G, (⟨c.Bus, c.F.ID, c.F.Long, 1, 0, c.Time, -1, -1⟩ : Tally))]).map (·.2) = f ++ [(⟨c.Bus, c.F.ID, c.F.Long, 1, 0, c.Time, -1, -1⟩ : Tally)] := moreP M
    have b8 := ec.perm (((pk 1 rfl).trans (lpr.cons _)).cons _)
    have b9 : Mem w.heap.size [] w Z ((.row aI [pt G 0] 53) :: (.own tyRp 53 aq ar ((i ++ [(G, (⟨c.Bus, c.F.ID, c.F.Long, 1, 0, c.Time, -1, -1⟩ : Tally))]).map (·.1))) :: (.row G (Tally.enc (⟨c.Bus, c.F.ID, c.F.Long, 1, 0, c.Time, -1, -1⟩ : Tally)) 55) :: (hsP Tally.enc 55 i [])) v b6 := b8
    have ca : Mem w.heap.size [] w Z ((.row aI [pt G 0] 53) :: (.own tyRp 53 aq ar ((i ++ [(G, (⟨c.Bus, c.F.ID, c.F.Long, 1, 0, c.Time, -1, -1⟩ : Tally))]).map (·.1))) :: (hsP Tally.enc 55 (i ++ [(G, (⟨c.Bus, c.F.ID, c.F.Long, 1, 0, c.Time, -1, -1⟩ : Tally))]) [])) v b6 := (b9.perm (List.Perm.cons _ (List.Perm.cons _ (hsP_more (enc := Tally.enc) (t := 55)))))
    refine s1 b7 5 (.slice aq (f ++ [(⟨c.Bus, c.F.ID, c.F.Long, 1, 0, c.Time, -1, -1⟩ : Tally)]).length ar) ?_; intro fX cb
    apply bS
    refine x_ (y_ (z_ (t_ (rgB cb ca [] [] [(22, i6 (w64 (u + 1)))] ?_)))); intro fY ee
    exact d_ ⟨⟨f ++ [(⟨c.Bus, c.F.ID, c.F.Long, 1, 0, c.Time, -1, -1⟩ : Tally)], w64 (u + 1), aq, ar, (i ++ [(G, (⟨c.Bus, c.F.ID, c.F.Long, 1, 0, c.Time, -1, -1⟩ : Tally))]), v⟩, ⟨b5.1, ed, N⟩, b5.2, (ee.reg).anyβ _ (by kernel_rfl), ca.kp⟩
   ·
    refine k_ (sqH ?_); intro eg cc
    refine bt ab B 2 [] [] [(46, .slice m f.length h), (47, i6 (tidxS f (fun x0 => tal1 x0 c)))] ?_; intro fZ ce
    obtain ⟨eh, cf⟩ := ef
    refine ixoP ce B 0 M (tidxS f (fun x0 => tal1 x0 c)) eh (k := .i64) (e := 53) (bytes := 8) (nog rfl _) rfl (by kernel_rfl) rfl (by kernel_rfl) (by kernel_rfl) rfl (by kernel_rfl) ?_; intro A f0 ei cg
    subst ei
    obtain ⟨a, ej, au⟩ := gxq cf (by first | omega | (simp only [List.length_set] at *; omega))
    obtain ⟨j, U⟩ := Mem.ptrAt M ej; have ek := own_elP B 0 rfl (tidxS f (fun x0 => tal1 x0 c)).toNat U
    refine lc1 cg 49 (pt j 0) ek rfl ?_; intro f1 ch
    have ci : Mem w.heap.size [] w Z ((.own tyRp 53 (sm A) h (i.map (·.1))) :: (.row j (e55Tb a) 55) :: (hsP Tally.enc 55 (i.eraseIdx (tidxS f (fun x0 => tal1 x0 c)).toNat) [])) v d8 := B.perm (List.Perm.cons _ (hsP_open (enc := Tally.enc) (t := 55) U))
    refine s1 ch 9 (pt j 0) ?_; intro el cj
    apply cc
    have cl : Fr 139 [] [⟨5, [], .slice (sm A) f.length h⟩, ⟨7, [], pt z 0⟩, ⟨9, [], pt j 0⟩, ⟨20, [], .slice ao1 u0.length cap2⟩, ⟨21, [], i6 (u0.length : Int)⟩, ⟨22, [], i6 u⟩] el := cj.reg
    refine sqQH mixed (by kernel_rfl) ci ?_; intro em cm
    refine q1 cl 50 (pt z 0) ?_; intro f2 aK
    refine qz_ aK R 0 (i6 c.Time) rfl ?_; intro f3 cn
    refine q1 cn 52 (pt j 0) ?_; intro f4 co
    refine q1 co 53 (pt j 0) ?_; intro f5 cp
    refine q1 cp 54 (pt j 5) ?_; intro f6 aL
    refine ql_ aL 1 5 (i6 a.last) rfl rfl ?_; intro f7 cq
    refine q1 cq 56 (i6 (w64 (c.Time - a.last))) ?_; intro f8 cr
    refine q1 cr 10 (i6 (w64 (c.Time - a.last))) ?_; intro en ct
    refine qnl (cm _ ?_); intro f9 cu
    have cv : Fr 139 [] [⟨5, [], .slice (sm A) f.length h⟩, ⟨7, [], pt z 0⟩, ⟨9, [], pt j 0⟩, ⟨10, [], i6 (w64 (c.Time - a.last))⟩, ⟨20, [], .slice ao1 u0.length cap2⟩, ⟨21, [], i6 (u0.length : Int)⟩, ⟨22, [], i6 u⟩] en := ct.reg
    refine wp_seq (rgS mixed cu [(0, true), (1, true), (2, true), (3, true), (4, true), (7, true), (8, true), (5, false), (6, true), (9, true), (10, true), (11, false), (12, true), (13, true), (14, false)] [14] [] [] ?_)
    intro eo cw ga av
    have cx := Fz.le.refl v
    refine cS cv 6 [] [] [(57, pt j 0), (58, pt j 0), (61, pt j 3), (64, pt z 0)] ?_; intro gb aM
    refine cst rfl aM (i6 c.Time) (nog rfl _) rfl (by kernel_rfl) (fun v239 hC => lz aM hC.fz R 0 (g := []) rfl (by kernel_rfl) (by kernel_rfl) (by kernel_rfl) rfl) ?_; intro gc cy
    refine eS rfl ?_; intro ep cz
    refine l1 cy av 62 1 3 (i6 a.n) rfl rfl ?_; intro gd cA
    refine nl (qnI (cz _ _ (av.cst cx []) ?_))
    refine cS cA 3 [] [] [(63, i6 (w64 (a.n + 1))), (67, pt j 3)] ?_; intro ge aN
    refine eS rfl ?_; intro eq cB
    refine sx aN av 1 [i6 a.bus, i6 a.id, .bool a.long, i6 (w64 (a.n + 1)), i6 a.first, i6 a.last, i6 a.low, i6 a.high] 3 ?_; intro er cC
    have aO : Mem w.heap.size [] w Z ((.own tyRp 53 (sm A) h (i.map (·.1))) :: (.row j [i6 a.bus, i6 a.id, .bool a.long, i6 (w64 (a.n + 1)), i6 a.first, i6 a.last, i6 a.low, i6 a.high] 55) :: (hsP Tally.enc 55 (i.eraseIdx (tidxS f (fun x0 => tal1 x0 c)).toNat) [])) v er := cC
    refine nl (qnI (cB _ _ (aO.cst cx []) ?_))
    refine cS aN 2 [] [] [(69, pt j 5)] ?_; intro gf aP
    refine eL rfl ?_; intro es cD
    refine sx aP aO 1 [i6 a.bus, i6 a.id, .bool a.long, i6 (w64 (a.n + 1)), i6 a.first, i6 c.Time, i6 a.low, i6 a.high] 5 ?_; intro et cE
    have S : Mem w.heap.size [] w Z ((.own tyRp 53 (sm A) h (i.map (·.1))) :: (.row j [i6 a.bus, i6 a.id, .bool a.long, i6 (w64 (a.n + 1)), i6 a.first, i6 c.Time, i6 a.low, i6 a.high] 55) :: (hsP Tally.enc 55 (i.eraseIdx (tidxS f (fun x0 => tal1 x0 c)).toNat) [])) v et := cE
    refine nl (qnI (cD _ _ ?_))
    refine nS (cw _ _ ?_)
    refine t_ (s_ (sqB aP S [1, 1] [] [(82, .bool ((decide (a.low < 0)) || (decide ((w64 (c.Time - a.last)) < a.low))))] ?_)); intro gg ac
    refine c_ ac au (fun _ cF => ?_) fun _ cL => ?_
    ·
     refine rgH ?_; intro eu cG
     refine bt ac S 4 [] [] [(84, i6 (w64 (c.Time - a.last))), (86, pt j 6)] ?_; intro gh aR
     refine sx aR S 1 [i6 a.bus, i6 a.id, .bool a.long, i6 (w64 (a.n + 1)), i6 a.first, i6 c.Time, i6 (w64 (c.Time - a.last)), i6 a.high] 6 ?_; intro ev cH
     have aS : Mem w.heap.size [] w Z ((.own tyRp 53 (sm A) h (i.map (·.1))) :: (.row j [i6 a.bus, i6 a.id, .bool a.long, i6 (w64 (a.n + 1)), i6 a.first, i6 c.Time, i6 (w64 (c.Time - a.last)), i6 a.high] 55) :: (hsP Tally.enc 55 (i.eraseIdx (tidxS f (fun x0 => tal1 x0 c)).toNat) [])) v ev := cH
     apply cG
     refine t_ (rgH ?_); intro ew cI
     refine bt aR aS 9 [1] [] [(93, i6 (max a.high (w64 (c.Time - a.last)))), (95, pt j 7)] ?_; intro gi aT
     refine sx aT aS 1 [i6 a.bus, i6 a.id, .bool a.long, i6 (w64 (a.n + 1)), i6 a.first, i6 c.Time, i6 (w64 (c.Time - a.last)), i6 (max a.high (w64 (c.Time - a.last)))] 7 ?_; intro aU cJ
     have aV : Mem w.heap.size [] w Z ((.own tyRp 53 (sm A) h (i.map (·.1))) :: (.row j [i6 a.bus, i6 a.id, .bool a.long, i6 (w64 (a.n + 1)), i6 a.first, i6 c.Time, i6 (w64 (c.Time - a.last)), i6 (max a.high (w64 (c.Time - a.last)))] 55) :: (hsP Tally.enc 55 (i.eraseIdx (tidxS f (fun x0 => tal1 x0 c)).toNat) [])) v aU := cJ
     apply cI
     refine j_ (t_ (rgB aT aV [] [] [(22, i6 (w64 (u + 1)))] ?_)); intro ex aW
     apply d_
     have cK : Mem w.heap.size [] w Z ((.own tyRp 53 (sm A) h (i.map (·.1))) :: (.row j (Tally.enc (⟨a.bus, a.id, a.long, w64 (a.n + 1), a.first, c.Time, w64 (c.Time - a.last), max a.high (w64 (c.Time - a.last))⟩ : Tally)) 55) :: (hsP Tally.enc 55 (i.eraseIdx (tidxS f (fun x0 => tal1 x0 c)).toNat) [])) v aU := aV
     have ey : (i.set (tidxS f (fun x0 => tal1 x0 c)).toNat (j, (⟨a.bus, a.id, a.long, w64 (a.n + 1), a.first, c.Time, w64 (c.Time - a.last), max a.high (w64 (c.Time - a.last))⟩ : Tally))).map (·.2) = f.set (tidxS f (fun x0 => tal1 x0 c)).toNat (⟨a.bus, a.id, a.long, w64 (a.n + 1), a.first, c.Time, w64 (c.Time - a.last), max a.high (w64 (c.Time - a.last))⟩ : Tally) := setP2 M
     have ez : Mem w.heap.size [] w Z ((.own tyRp 53 (sm A) h ((i.set (tidxS f (fun x0 => tal1 x0 c)).toNat (j, (⟨a.bus, a.id, a.long, w64 (a.n + 1), a.first, c.Time, w64 (c.Time - a.last), max a.high (w64 (c.Time - a.last))⟩ : Tally))).map (·.1))) :: (hsP Tally.enc 55 (i.set (tidxS f (fun x0 => tal1 x0 c)).toNat (j, (⟨a.bus, a.id, a.long, w64 (a.n + 1), a.first, c.Time, w64 (c.Time - a.last), max a.high (w64 (c.Time - a.last))⟩ : Tally))) [])) v aU := by rw [setP U]; exact cK.perm (List.Perm.cons _ (hsP_close (enc := Tally.enc) (t := 55) (y := (⟨a.bus, a.id, a.long, w64 (a.n + 1), a.first, c.Time, w64 (c.Time - a.last), max a.high (w64 (c.Time - a.last))⟩ : Tally)) U))
     have eA : Fr 139 [] [⟨5, [], .slice (sm A) (f.set (tidxS f (fun x0 => tal1 x0 c)).toNat (⟨a.bus, a.id, a.long, w64 (a.n + 1), a.first, c.Time, w64 (c.Time - a.last), max a.high (w64 (c.Time - a.last))⟩ : Tally)).length h⟩, ⟨7, [], pt z 0⟩, ⟨10, [], i6 (w64 (c.Time - a.last))⟩, ⟨20, [], .slice ao1 u0.length cap2⟩, ⟨21, [], i6 (u0.length : Int)⟩, ⟨22, [], i6 (w64 (u + 1))⟩, ⟨62, [], i6 a.n⟩, ⟨63, [], i6 (w64 (a.n + 1))⟩, ⟨64, [], pt z 0⟩, ⟨65, [], i6 c.Time⟩, ⟨82, [], .bool ((decide (a.low < 0)) || (decide ((w64 (c.Time - a.last)) < a.low)))⟩, ⟨84, [], i6 (w64 (c.Time - a.last))⟩, ⟨93, [], i6 (max a.high (w64 (c.Time - a.last)))⟩] ex := by (try simp only [List.length_set] at aW); (try simp only [List.length_set]); exact aW.reg
     exact ⟨⟨f.set (tidxS f (fun x0 => tal1 x0 c)).toNat (⟨a.bus, a.id, a.long, w64 (a.n + 1), a.first, c.Time, w64 (c.Time - a.last), max a.high (w64 (c.Time - a.last))⟩ : Tally), w64 (u + 1), (sm A), h, (i.set (tidxS f (fun x0 => tal1 x0 c)).toNat (j, (⟨a.bus, a.id, a.long, w64 (a.n + 1), a.first, c.Time, w64 (c.Time - a.last), max a.high (w64 (c.Time - a.last))⟩ : Tally))), v⟩, ⟨cF.1, ey, N⟩, cF.2, (eA.reg).anyβ _ (by kernel_rfl), ez.kp⟩
    ·
     refine k_ (rgH ?_); intro eB cM
     refine bt ac S 9 [1] [] [(93, i6 (max a.high (w64 (c.Time - a.last)))), (95, pt j 7)] ?_; intro gj aX
     refine sx aX S 1 [i6 a.bus, i6 a.id, .bool a.long, i6 (w64 (a.n + 1)), i6 a.first, i6 c.Time, i6 a.low, i6 (max a.high (w64 (c.Time - a.last)))] 7 ?_; intro aY cN
     have aZ : Mem w.heap.size [] w Z ((.own tyRp 53 (sm A) h (i.map (·.1))) :: (.row j [i6 a.bus, i6 a.id, .bool a.long, i6 (w64 (a.n + 1)), i6 a.first, i6 c.Time, i6 a.low, i6 (max a.high (w64 (c.Time - a.last)))] 55) :: (hsP Tally.enc 55 (i.eraseIdx (tidxS f (fun x0 => tal1 x0 c)).toNat) [])) v aY := cN
     apply cM
     refine j_ (t_ (rgB aX aZ [] [] [(22, i6 (w64 (u + 1)))] ?_)); intro eC a1
     apply d_
     have cO : Mem w.heap.size [] w Z ((.own tyRp 53 (sm A) h (i.map (·.1))) :: (.row j (Tally.enc (⟨a.bus, a.id, a.long, w64 (a.n + 1), a.first, c.Time, a.low, max a.high (w64 (c.Time - a.last))⟩ : Tally)) 55) :: (hsP Tally.enc 55 (i.eraseIdx (tidxS f (fun x0 => tal1 x0 c)).toNat) [])) v aY := aZ
     have eD : (i.set (tidxS f (fun x0 => tal1 x0 c)).toNat (j, (⟨a.bus, a.id, a.long, w64 (a.n + 1), a.first, c.Time, a.low, max a.high (w64 (c.Time - a.last))⟩ : Tally))).map (·.2) = f.set (tidxS f (fun x0 => tal1 x0 c)).toNat (⟨a.bus, a.id, a.long, w64 (a.n + 1), a.first, c.Time, a.low, max a.high (w64 (c.Time - a.last))⟩ : Tally) := setP2 M
     have eE : Mem w.heap.size [] w Z ((.own tyRp 53 (sm A) h ((i.set (tidxS f (fun x0 => tal1 x0 c)).toNat (j, (⟨a.bus, a.id, a.long, w64 (a.n + 1), a.first, c.Time, a.low, max a.high (w64 (c.Time - a.last))⟩ : Tally))).map (·.1))) :: (hsP Tally.enc 55 (i.set (tidxS f (fun x0 => tal1 x0 c)).toNat (j, (⟨a.bus, a.id, a.long, w64 (a.n + 1), a.first, c.Time, a.low, max a.high (w64 (c.Time - a.last))⟩ : Tally))) [])) v aY := by rw [setP U]; exact cO.perm (List.Perm.cons _ (hsP_close (enc := Tally.enc) (t := 55) (y := (⟨a.bus, a.id, a.long, w64 (a.n + 1), a.first, c.Time, a.low, max a.high (w64 (c.Time - a.last))⟩ : Tally)) U))
     have eF : Fr 139 [] [⟨5, [], .slice (sm A) (f.set (tidxS f (fun x0 => tal1 x0 c)).toNat (⟨a.bus, a.id, a.long, w64 (a.n + 1), a.first, c.Time, a.low, max a.high (w64 (c.Time - a.last))⟩ : Tally)).length h⟩, ⟨7, [], pt z 0⟩, ⟨10, [], i6 (w64 (c.Time - a.last))⟩, ⟨20, [], .slice ao1 u0.length cap2⟩, ⟨21, [], i6 (u0.length : Int)⟩, ⟨22, [], i6 (w64 (u + 1))⟩, ⟨62, [], i6 a.n⟩, ⟨63, [], i6 (w64 (a.n + 1))⟩, ⟨64, [], pt z 0⟩, ⟨65, [], i6 c.Time⟩, ⟨82, [], .bool ((decide (a.low < 0)) || (decide ((w64 (c.Time - a.last)) < a.low)))⟩, ⟨93, [], i6 (max a.high (w64 (c.Time - a.last)))⟩] eC := by (try simp only [List.length_set] at a1); (try simp only [List.length_set]); exact a1.reg
     exact ⟨⟨f.set (tidxS f (fun x0 => tal1 x0 c)).toNat (⟨a.bus, a.id, a.long, w64 (a.n + 1), a.first, c.Time, a.low, max a.high (w64 (c.Time - a.last))⟩ : Tally), w64 (u + 1), (sm A), h, (i.set (tidxS f (fun x0 => tal1 x0 c)).toNat (j, (⟨a.bus, a.id, a.long, w64 (a.n + 1), a.first, c.Time, a.low, max a.high (w64 (c.Time - a.last))⟩ : Tally))), v⟩, ⟨cL.1, eD, N⟩, cL.2, (eF.reg).anyβ _ (by kernel_rfl), eE.kp⟩
  ·
   refine x_ (y_ (y_ (z_ (t_ (sqH ?_))))); intro eH cP
   refine s1 Y 97 (.slice m f.length h) ?_; intro gk cQ
   obtain ⟨eI, cR⟩ := eG
   refine ck cQ 19 #[.slice m f.length h, .func (.func 20) #[] #[]] ?_
   refine (tsrt_call bC 0 rfl M (by intro p hp; repeat first | exact hsP_mem hp | apply List.mem_cons_of_mem) eI).mono ?_; rintro _ a2 ⟨rfl, ad, cT, cU, hm⟩; refine ⟨_, rfl, ?_⟩; intro eJ cV; have cW := hm
   obtain ⟨o, a3⟩ : ∃ l, ad.map (·.2) = l := ⟨_, rfl⟩; rw [a3] at cU
   have aw : f.Perm o := by have h9 := cT.map (·.2); rwa [M, a3] at h9
   have eK := cR o ⟨aw, cU⟩
   replace aw := aw.length_eq
   have ax : Mem w.heap.size [] w Z ((.own tyRp 53 m h (ad.map (·.1))) :: (hsP Tally.enc 55 ad [])) ai a2 := cW.perm (List.Perm.cons _ (hsP_perm cT))
   have cX : Fr 139 [] [⟨5, [], .slice m o.length h⟩, ⟨20, [], .slice ao1 u0.length cap2⟩, ⟨21, [], i6 (u0.length : Int)⟩, ⟨22, [], i6 u⟩, ⟨23, [], .bool (decide (u < (u0.length : Int)))⟩, ⟨97, [], .slice m o.length h⟩, ⟨98, [], .tuple #[]⟩] eJ := by rw [← aw]; exact cV.reg
   apply cP
   refine sqB cX ax [] [] [(11, .slice none 0 0)] ?_; intro gl cY
   refine s_ (sqB cY ax [] [] [(99, .slice m o.length h), (100, i6 (o.length : Int)), (101, i6 0)] ?_); intro cZ c0
   apply b_
   have c1 : Fr 139 [] [⟨11, [], .slice none 0 0⟩, ⟨99, [], .slice m o.length h⟩, ⟨100, [], i6 (o.length : Int)⟩, ⟨101, [], i6 0⟩] cZ := c0.reg
   have eM : Mem w.heap.size [] w Z ((.own (tyFlat (fun x : Int × Int × Int × Int × Int => [i6 x.1, i6 x.2.1, i6 x.2.2.1, i6 x.2.2.2.1, i6 x.2.2.2.2]) 5 (fun _ => rfl) (fun x => by simp [Value.oneCell'])) 38 none 0 ([] : List (Int × Int × Int × Int × Int))) :: (.own tyRp 53 m h (ad.map (·.1))) :: (hsP Tally.enc 55 ad [])) ai a2 := ax.addNil (tyFlat (fun x : Int × Int × Int × Int × Int => [i6 x.1, i6 x.2.1, i6 x.2.2.1, i6 x.2.2.2.1, i6 x.2.2.2.2]) 5 (fun _ => rfl) (fun x => by simp [Value.oneCell'])) 38 (by decide)
   obtain ⟨P, a4, c2, eN⟩ := eM.freezeP (T := tyTally) (fun _ _ => rfl) (hsP_step (hsP_step lpr)) 1 rfl a3
   have c3 : Mem w.heap.size [] w Z [.own (tyFlat (fun x : Int × Int × Int × Int × Int => [i6 x.1, i6 x.2.1, i6 x.2.2.1, i6 x.2.2.2.1, i6 x.2.2.2.2]) 5 (fun _ => rfl) (fun x => by simp [Value.oneCell'])) 38 none 0 ([] : List (Int × Int × Int × Int × Int))] P a2 := c2
   have c4 : Fr 139 [] [⟨11, [], .slice none ([] : List (Int × Int × Int × Int × Int)).length 0⟩, ⟨99, [], .slice m o.length h⟩, ⟨100, [], i6 (o.length : Int)⟩, ⟨101, [], i6 0⟩] cZ := c1.reg
   obtain ⟨eO, eP, eQ, eR⟩ := eK
   refine lp (ι := (List (Int × Int × Int × Int × Int)) × Int × (Option Addr) × Nat) (fun s => [⟨11, [], .slice s.2.2.1 s.1.length s.2.2.2⟩, ⟨99, [], .slice m o.length h⟩, ⟨100, [], i6 (o.length : Int)⟩, ⟨101, [], i6 s.2.1⟩]) (fun s => [.own (tyFlat (fun x : Int × Int × Int × Int × Int => [i6 x.1, i6 x.2.1, i6 x.2.2.1, i6 x.2.2.2.1, i6 x.2.2.2.2]) 5 (fun _ => rfl) (fun x => by simp [Value.oneCell'])) 38 s.2.2.1 s.2.2.2 s.1]) (fun s => P) (fun s => eO s.1 s.2.1) (fun s => eP s.1 s.2.1) ⟨([] : List (Int × Int × Int × Int × Int)), 0, none, 0⟩ eQ (by exact c4.reg) (by exact c3) ?_
   rintro ⟨q, H, I, J⟩ eT eU eV c5 c6
   have ay := eR q H eT
   refine sqB c5 c6 [] [] [(102, .bool (decide (H < (o.length : Int))))] ?_; intro gm ae
   refine s_ (c_ ae ay (fun _ eW => ?_) fun _ fn => ?_)
   ·
    refine k_ (s_ (b_ (sqH ?_))); intro eX c8
    obtain ⟨eY, c9⟩ := eW
    refine ix_ ae eN H eY .i64 53 8 ?_; intro gn go gp d gq eZ e0 e1 da
    have az := c9 d eZ
    obtain ⟨C, D, e2, rfl, L, e3⟩ := e1
    obtain rfl : e2 = ((e55Tb d) : List Value) := e3
    refine z1 da c6 104 e0 0 (pt C D) rfl ?_; intro gr db
    refine s1 db 13 (pt C D) ?_; intro gs dc
    apply c8
    refine sqH ?_; intro e4 dd
    refine bt dc c6 3 [] [] [(107, .pointer (some ⟨C, D + 1, none⟩))] ?_; intro gt de
    refine z1 de c6 108 L 1 (i6 d.id) rfl ?_; intro gu df
    refine s1 df 14 (i6 d.id) ?_; intro gv dg
    apply dd
    refine s_ (sqH ?_); intro e5 dh
    refine bt dg c6 3 [] [] [(111, .pointer (some ⟨C, D + 2, none⟩))] ?_; intro gw di
    refine z1 di c6 112 L 2 (.bool d.long) rfl ?_; intro e6 af
    apply dh
    refine c_ af az (fun _ e7 => ?_) fun _ fg => ?_
    ·
     refine rgB af c6 [] [] [(14, i6 (w64 ((w64 (0 - d.id)) - 1)))] ?_; intro e8 dj
     apply t_
     have dk : Fr 139 [] [⟨11, [], .slice I q.length J⟩, ⟨13, [], pt C D⟩, ⟨14, [], i6 (w64 ((w64 (0 - d.id)) - 1))⟩, ⟨99, [], .slice m o.length h⟩, ⟨100, [], i6 (o.length : Int)⟩, ⟨101, [], i6 H⟩] e8 := dj.reg
     refine rgS mixed c6 [(0, true), (1, true), (2, true), (3, true), (5, true), (6, true), (7, true), (8, true), (10, true), (11, true), (12, true), (14, true), (15, true), (16, true), (4, true), (9, true), (13, true), (17, true), (18, true), (19, false), (20, false), (21, true)] [] [] [] ?_
     intro e9 dl gx dm
     have dn := Fz.le.refl P
     refine cS dk 14 [] [] [(116, .slice I q.length J), (119, pt C D), (121, i6 (w64 ((w64 (0 - d.id)) - 1))), (124, .pointer (some ⟨C, D + 3, none⟩)), (128, .pointer (some ⟨C, D + 6, none⟩)), (132, .pointer (some ⟨C, D + 7, none⟩))] ?_; intro gy a7
     refine cst rfl a7 (i6 d.bus) (nog rfl _) rfl (by kernel_rfl) (fun v508 hC => lz a7 hC.fz L 0 (g := []) rfl (by kernel_rfl) (by kernel_rfl) (by kernel_rfl) rfl) ?_; intro gz a9
     refine cst rfl a9 (i6 d.n) (nog rfl _) rfl (by kernel_rfl) (fun v511 hC => lz a9 hC.fz L 3 (g := []) rfl (by kernel_rfl) (by kernel_rfl) (by kernel_rfl) rfl) ?_; intro gA ba
     refine cst rfl ba (i6 d.low) (nog rfl _) rfl (by kernel_rfl) (fun v514 hC => lz ba hC.fz L 6 (g := []) rfl (by kernel_rfl) (by kernel_rfl) (by kernel_rfl) rfl) ?_; intro gB bb
     refine cst rfl bb (i6 d.high) (nog rfl _) rfl (by kernel_rfl) (fun v517 hC => lz bb hC.fz L 7 (g := []) rfl (by kernel_rfl) (by kernel_rfl) (by kernel_rfl) rfl) ?_; intro gC dp
     refine cS dp 1 [] [] [(134, .agg #[i6 d.bus, i6 (w64 ((w64 (0 - d.id)) - 1)), i6 d.n, i6 d.low, i6 d.high])] ?_; intro gD dq
     refine eS rfl ?_; intro fa dr
     refine nw dq dm (fun b => .slice (sm b) 1 1) [i6 d.bus, i6 (w64 ((w64 (0 - d.id)) - 1)), i6 d.n, i6 d.low, i6 d.high] 38 ?_; intro ds gE gF dt aA
     refine nl (qnI (dr _ _ (aA.cst dn []) ?_))
     refine eS rfl ?_; intro fb du
     obtain ⟨fd, dv⟩ := e7
     refine ap dt aA 1 (T := (tyFlat (fun x : Int × Int × Int × Int × Int => [i6 x.1, i6 x.2.1, i6 x.2.2.1, i6 x.2.2.2.1, i6 x.2.2.2.2]) 5 (fun _ => rfl) (fun x => by simp [Value.oneCell']))) (xs := q) (ys := [(d.bus, w64 ((w64 (0 - d.id)) - 1), d.n, d.low, d.high)]) (ao := I) (cap := J) (ao2 := (sm ds)) (cap2 := 1) (t := 23) (e := 38) (bytes := 40) (nog rfl _) rfl (by kernel_rfl) rfl (by kernel_rfl) (by kernel_rfl) (by kernel_rfl) rfl (Src.row aA 0 rfl (RepAll.one (T := (tyFlat (fun x : Int × Int × Int × Int × Int => [i6 x.1, i6 x.2.1, i6 x.2.2.1, i6 x.2.2.2.1, i6 x.2.2.2.2]) 5 (fun _ => rfl) (fun x => by simp [Value.oneCell']))) (x := (d.bus, w64 ((w64 (0 - d.id)) - 1), d.n, d.low, d.high)) rfl)) fd ?_; intro bc bd gG fe gH dw dx
     have be : Mem w.heap.size [] w Z [.row ds [i6 d.bus, i6 (w64 ((w64 (0 - d.id)) - 1)), i6 d.n, i6 d.low, i6 d.high] 38, .own (tyFlat (fun x : Int × Int × Int × Int × Int => [i6 x.1, i6 x.2.1, i6 x.2.2.1, i6 x.2.2.2.1, i6 x.2.2.2.2]) 5 (fun _ => rfl) (fun x => by simp [Value.oneCell'])) 38 bc bd (q ++ [(d.bus, w64 ((w64 (0 - d.id)) - 1), d.n, d.low, d.high)])] P fe := dx
     refine nl (qnI (du _ _ (be.cst dn []) ?_))
     refine cS dw 1 [] [] [(11, .slice bc (q ++ [(d.bus, w64 ((w64 (0 - d.id)) - 1), d.n, d.low, d.high)]).length bd)] ?_; intro gI dy
     refine nS (dl _ _ ?_)
     refine j_ (t_ (rgB dy be [] [] [(101, i6 (w64 (H + 1)))] ?_)); intro gJ ff
     exact d_ ⟨⟨q ++ [(d.bus, w64 ((w64 (0 - d.id)) - 1), d.n, d.low, d.high)], w64 (H + 1), bc, bd⟩, dv.1, dv.2, (ff.reg).anyβ _ (by kernel_rfl), be.kp⟩
    ·
     apply k_
     have dz : Fr 139 [] [⟨11, [], .slice I q.length J⟩, ⟨13, [], pt C D⟩, ⟨14, [], i6 d.id⟩, ⟨99, [], .slice m o.length h⟩, ⟨100, [], i6 (o.length : Int)⟩, ⟨101, [], i6 H⟩] e6 := af.reg
     refine rgS mixed c6 [(0, true), (1, true), (2, true), (3, true), (5, true), (6, true), (7, true), (8, true), (10, true), (11, true), (12, true), (14, true), (15, true), (16, true), (4, true), (9, true), (13, true), (17, true), (18, true), (19, false), (20, false), (21, true)] [] [] [] ?_
     intro fh dA gK dB
     have dC := Fz.le.refl P
     refine cS dz 14 [] [] [(116, .slice I q.length J), (119, pt C D), (121, i6 d.id), (124, .pointer (some ⟨C, D + 3, none⟩)), (128, .pointer (some ⟨C, D + 6, none⟩)), (132, .pointer (some ⟨C, D + 7, none⟩))] ?_; intro gL bf
     refine cst rfl bf (i6 d.bus) (nog rfl _) rfl (by kernel_rfl) (fun v580 hC => lz bf hC.fz L 0 (g := []) rfl (by kernel_rfl) (by kernel_rfl) (by kernel_rfl) rfl) ?_; intro gM bg
     refine cst rfl bg (i6 d.n) (nog rfl _) rfl (by kernel_rfl) (fun v583 hC => lz bg hC.fz L 3 (g := []) rfl (by kernel_rfl) (by kernel_rfl) (by kernel_rfl) rfl) ?_; intro gN bh
     refine cst rfl bh (i6 d.low) (nog rfl _) rfl (by kernel_rfl) (fun v586 hC => lz bh hC.fz L 6 (g := []) rfl (by kernel_rfl) (by kernel_rfl) (by kernel_rfl) rfl) ?_; intro gO bi
     refine cst rfl bi (i6 d.high) (nog rfl _) rfl (by kernel_rfl) (fun v589 hC => lz bi hC.fz L 7 (g := []) rfl (by kernel_rfl) (by kernel_rfl) (by kernel_rfl) rfl) ?_; intro gP dD
     refine cS dD 1 [] [] [(134, .agg #[i6 d.bus, i6 d.id, i6 d.n, i6 d.low, i6 d.high])] ?_; intro gQ dE
     refine eS rfl ?_; intro fi dF
     refine nw dE dB (fun b => .slice (sm b) 1 1) [i6 d.bus, i6 d.id, i6 d.n, i6 d.low, i6 d.high] 38 ?_; intro dG gR gS dH aB
     refine nl (qnI (dF _ _ (aB.cst dC []) ?_))
     refine eS rfl ?_; intro fj dI
     obtain ⟨fk, dJ⟩ := fg
     refine ap dH aB 1 (T := (tyFlat (fun x : Int × Int × Int × Int × Int => [i6 x.1, i6 x.2.1, i6 x.2.2.1, i6 x.2.2.2.1, i6 x.2.2.2.2]) 5 (fun _ => rfl) (fun x => by simp [Value.oneCell']))) (xs := q) (ys := [(d.bus, d.id, d.n, d.low, d.high)]) (ao := I) (cap := J) (ao2 := (sm dG)) (cap2 := 1) (t := 23) (e := 38) (bytes := 40) (nog rfl _) rfl (by kernel_rfl) rfl (by kernel_rfl) (by kernel_rfl) (by kernel_rfl) rfl (Src.row aB 0 rfl (RepAll.one (T := (tyFlat (fun x : Int × Int × Int × Int × Int => [i6 x.1, i6 x.2.1, i6 x.2.2.1, i6 x.2.2.2.1, i6 x.2.2.2.2]) 5 (fun _ => rfl) (fun x => by simp [Value.oneCell']))) (x := (d.bus, d.id, d.n, d.low, d.high)) rfl)) fk ?_; intro bj bk gT fl gU dK dL
     have bl : Mem w.heap.size [] w Z [.row dG [i6 d.bus, i6 d.id, i6 d.n, i6 d.low, i6 d.high] 38, .own (tyFlat (fun x : Int × Int × Int × Int × Int => [i6 x.1, i6 x.2.1, i6 x.2.2.1, i6 x.2.2.2.1, i6 x.2.2.2.2]) 5 (fun _ => rfl) (fun x => by simp [Value.oneCell'])) 38 bj bk (q ++ [(d.bus, d.id, d.n, d.low, d.high)])] P fl := dL
     refine nl (qnI (dI _ _ (bl.cst dC []) ?_))
     refine cS dK 1 [] [] [(11, .slice bj (q ++ [(d.bus, d.id, d.n, d.low, d.high)]).length bk)] ?_; intro gV dM
     refine nS (dA _ _ ?_)
     refine j_ (t_ (rgB dM bl [] [] [(101, i6 (w64 (H + 1)))] ?_)); intro gW fm
     exact d_ ⟨⟨q ++ [(d.bus, d.id, d.n, d.low, d.high)], w64 (H + 1), bj, bk⟩, dJ.1, dJ.2, (fm.reg).anyβ _ (by kernel_rfl), bl.kp⟩
   ·
    refine x_ (y_ (y_ (z_ (t_ (sqB ae c6 [] [] [(2, .slice I q.length J), (3, i6 0)] ?_))))); intro gX fo
    exact r_ (ra2 fo (.tuple #[.slice I q.length J, i6 0]) ⟨(q, 0), I, J, P, rfl, fn, c6.kp⟩)

end Go.Proofs.YtdenmllkjdijlaaGreatDoor
namespace Go.Proofs
open Go.Shelf
def Tryz.lays189_ren : Go.Shelf.Ren := ⟨fun | 189 => 9 | 125 => 23 | 257 => 22 | 128 => 53 | 129 => 54 | 294 => 44 | 295 => 45 | 296 => 46 | 297 => 47 | 298 => 48 | 299 => 49 | 216 => 50 | 300 => 51 | 301 => 52 | 328 => 90 | 329 => 91 | 330 => 92 | 331 => 93 | 332 => 94 | 215 => 95 | 343 => 128 | n => n, fun | 28 => 31 | 3 => 3 | 46 => 62 | 0 => 0 | 51 => 97 | 53 => 99 | 4 => 4 | 183 => 90 | 182 => 89 | 131 => 65 | 5 => 5 | 9 => 9 | 218 => 129 | 222 => 133 | 228 => 158 | 229 => 159 | n => n, fun | n => n⟩
theorem Tryz.lays189 : Go.Proofs.Lays.n189 Tryz.prog Tryz.lays189_ren := {
  mixed := by kernel_rfl
  f125 := Tryz.func23.trans (congrArg some (by kernel_rfl))
  f128 := Tryz.func53.trans (congrArg some (by kernel_rfl))
  f129 := Tryz.func54.trans (congrArg some (by kernel_rfl))
  f189 := Tryz.func9.trans (congrArg some (by kernel_rfl))
  f215 := Tryz.func95.trans (congrArg some (by kernel_rfl))
  f216 := Tryz.func50.trans (congrArg some (by kernel_rfl))
  f257 := Tryz.func22.trans (congrArg some (by kernel_rfl))
  f294 := Tryz.func44.trans (congrArg some (by kernel_rfl))
  f295 := Tryz.func45.trans (congrArg some (by kernel_rfl))
  f296 := Tryz.func46.trans (congrArg some (by kernel_rfl))
  f297 := Tryz.func47.trans (congrArg some (by kernel_rfl))
  f298 := Tryz.func48.trans (congrArg some (by kernel_rfl))
  f299 := Tryz.func49.trans (congrArg some (by kernel_rfl))
  f300 := Tryz.func51.trans (congrArg some (by kernel_rfl))
  f301 := Tryz.func52.trans (congrArg some (by kernel_rfl))
  f328 := Tryz.func90.trans (congrArg some (by kernel_rfl))
  f329 := Tryz.func91.trans (congrArg some (by kernel_rfl))
  f330 := Tryz.func92.trans (congrArg some (by kernel_rfl))
  f331 := Tryz.func93.trans (congrArg some (by kernel_rfl))
  f332 := Tryz.func94.trans (congrArg some (by kernel_rfl))
  f343 := Tryz.func128.trans (congrArg some (by kernel_rfl))
  t0 := Tryz.underlying0
  a0 := Tryz.isAgg0
  z0 := Tryz.sizeOf0
  v0 := Tryz.zeroValue0
  t3 := Tryz.underlying3
  a3 := Tryz.isAgg3
  z3 := Tryz.sizeOf3
  v3 := Tryz.zeroValue3
  t4 := Tryz.underlying4
  a4 := Tryz.isAgg4
  z4 := Tryz.sizeOf4
  v4 := Tryz.zeroValue4
  t5 := Tryz.underlying5
  a5 := Tryz.isAgg5
  z5 := Tryz.sizeOf5
  v5 := Tryz.zeroValue5
  t9 := Tryz.underlying9
  a9 := Tryz.isAgg9
  z9 := Tryz.sizeOf9
  v9 := Tryz.zeroValue9
  t28 := Tryz.underlying31
  a28 := Tryz.isAgg31
  z28 := Tryz.sizeOf31
  v28 := Tryz.zeroValue31
  t46 := Tryz.underlying62
  a46 := Tryz.isAgg62
  z46 := Tryz.sizeOf62
  v46 := Tryz.zeroValue62
  t51 := Tryz.underlying97
  a51 := Tryz.isAgg97
  z51 := Tryz.sizeOf97
  v51 := Tryz.zeroValue97
  t53 := Tryz.underlying99
  a53 := Tryz.isAgg99
  z53 := Tryz.sizeOf99
  v53 := Tryz.zeroValue99
  t131 := Tryz.underlying65
  a131 := Tryz.isAgg65
  z131 := Tryz.sizeOf65
  v131 := Tryz.zeroValue65
  t182 := Tryz.underlying89
  a182 := Tryz.isAgg89
  z182 := Tryz.sizeOf89
  v182 := Tryz.zeroValue89
  t183 := Tryz.underlying90
  a183 := Tryz.isAgg90
  z183 := Tryz.sizeOf90
  v183 := Tryz.zeroValue90
  t218 := Tryz.underlying129
  a218 := Tryz.isAgg129
  z218 := Tryz.sizeOf129
  v218 := Tryz.zeroValue129
  t222 := Tryz.underlying133
  a222 := Tryz.isAgg133
  z222 := Tryz.sizeOf133
  v222 := Tryz.zeroValue133
  t228 := Tryz.underlying158
  a228 := Tryz.isAgg158
  z228 := Tryz.sizeOf158
  v228 := Tryz.zeroValue158
  t229 := Tryz.underlying159
  a229 := Tryz.isAgg159
  z229 := Tryz.sizeOf159
  v229 := Tryz.zeroValue159 }
end Go.Proofs
set_option linter.unusedVariables false
set_option linter.unusedSimpArgs false
set_option linter.defProp false
set_option maxRecDepth 100000
set_option maxHeartbeats 0
namespace Go.Proofs.YtdenmllkjdijlaaGreatDoor
open Go.Sy Go.RowKit
def ttally_fun (u0 : List Line) (ao1 : Option Addr) (cap2 : Nat) (Z : Fz) (w : World) (hs3 : SlR tyLine Z ao1 cap2 u0) (hZ : Z.on w) := fc_ (ttally_walk u0 ao1 cap2 Z w hs3 hZ (ttally_ok u0))
open Go Go.Sort
theorem sort_block (w : World) (blk n : Nat) (d : Array Int) (os : Array Obj) (cur : Array Value) (e : TypeId) (fr : Nat × Nat) (h : w.heap[blk]? = some (.cells cur e fr)) : (grow (putRow (Value.int .i64) (Go.Sort.ahead w n) blk 0 d) os).heap[blk]? = some (.cells (putCells (Value.int .i64) 0 d cur) e fr) := by
  have hl := (Array.getElem?_eq_some_iff.1 h).1
  have hl' : blk < (w.heap.modify blk (onCells (putCells (Value.int .i64) 0 d))).size := by rw [Array.size_modify]; exact hl
  show (w.heap.modify blk (onCells (putCells (Value.int .i64) 0 d)) ++ os)[blk]? = _
  rw [Array.getElem?_append, if_pos hl', Array.getElem?_modify, if_pos rfl, h]
  rfl
theorem sort_grown (w : World) (blk n : Nat) (d : Array Int) (os : Array Obj) : w.grownBy (grow (putRow (Value.int .i64) (Go.Sort.ahead w n) blk 0 d) os) (some blk) := by
  refine ⟨rfl, rfl, rfl, ?_, fun k hk hne => ?_⟩
  · show w.heap.size ≤ (w.heap.modify blk _ ++ os).size
    rw [Array.size_append, Array.size_modify]
    omega
  · have hl' : k < (w.heap.modify blk (onCells (putCells (Value.int .i64) 0 d))).size := by rw [Array.size_modify]; exact hk
    show (w.heap.modify blk (onCells (putCells (Value.int .i64) 0 d)) ++ os)[k]? = _
    rw [Array.getElem?_append, if_pos hl', Array.getElem?_modify, if_neg (fun h => hne (by rw [h]))]


theorem sort_cells (d : List Int) (cur : Array Value) (n cap : Nat) (hc : cur.size = cap) (hd : d.length ≤ cap) : ((putCells (Value.int .i64) 0 d.toArray cur).toList.take d.length) = d.map (Value.int .i64) := by
  apply List.ext_getElem?
  intro k
  rw [List.getElem?_take, List.getElem?_map]
  by_cases hk : k < d.length
  · rw [if_pos hk, List.getElem?_eq_getElem hk, Array.getElem?_toList]
    unfold putCells
    rw [Array.getElem?_mapIdx, Array.getElem?_eq_getElem (by omega), Option.map_some, Option.map_some, if_pos ⟨by omega, by simpa using hk⟩]
    congr 1
    simp [hk]
  · rw [if_neg hk, List.getElem?_eq_none (by omega)]
    rfl
theorem sort_mem {B : Nat} {U : List Nat} {w0 : World} {Z0 : Fz} {R : List Res} {Z : Fz} {w : World} (hM : Mem B U w0 Z0 R Z w) (i : Nat) {e : TypeId} {ad : Addr} {cap : Nat} {xs : List Int} (hR : R[i]? = some (.own t6 e (some ad) cap xs)) (n : Nat) (os : Array Obj) (ys : List Int) (hl : ys.length = xs.length) : Mem B U w0 Z0 (R.set i (.own t6 e (some ad) cap ys)) Z (grow (putRow (Value.int .i64) (Go.Sort.ahead w n) ad.block 0 ys.toArray) os) := by
  obtain ⟨a, c, cells, ho, hr⟩ := hM.res _ (List.mem_of_getElem? hR)
  rcases ho.2 with ⟨hv, _⟩ | ⟨g, cap', cur, hv, hb, hg, hn, hc, hs, ht⟩
  · cases hv
  · cases hv
    refine hM.upd hR (sort_grown w _ n _ os) _ ⟨a, by rw [hl]; exact c, ys.map (Value.int .i64), ⟨by simp [tyInt], .inr ⟨g, cap, _, by rw [hl], hb, sort_block w g n _ os cur e _ hg, by rw [hl]; exact hn, hc, ?_, ?_⟩⟩, ?_⟩ (fun b hb => .inl hb)
    · unfold putCells; rw [Array.size_mapIdx]; exact hs
    · have := sort_cells ys cur n (cap * 1) (by simpa [tyInt] using hs) (by omega)
      simpa [tyInt] using this
    · refine ⟨by simp [tyInt], fun j x hx => ?_⟩
      show List.take 1 (List.drop (j * 1) (ys.map (Value.int .i64))) = [Value.int .i64 x]
      have hj := (List.getElem?_eq_some_iff.1 hx).1
      rw [Nat.mul_one, List.drop_eq_getElem_cons (by rw [List.length_map]; exact hj), List.take_succ_cons, List.take_zero, List.getElem_map, (List.getElem?_eq_some_iff.1 hx).2]
theorem sort_frozen (w : World) (g j : Nat) (cur : Array Value) (e : TypeId) (hg : w.heap[g]? = some (.cells cur e (0, 0))) : w.frozen? ⟨g, j, none⟩ = false := by
  simp [World.frozen?, hg]
theorem sort_holds {B : Nat} {U : List Nat} {Z : Fz} {w : World} {e : TypeId} {ad : Addr} {cap : Nat} {xs : List Int} (h : (Res.own t6 e (some ad) cap xs).holds B U Z w) : ad = ⟨ad.block, 0, none⟩ ∧ ad.block < w.heap.size ∧ Holds (Value.int .i64) w ad.block 0 xs.toArray := by
  obtain ⟨d, f, cells, ho, hr⟩ := h
  rcases ho.2 with ⟨hv, _⟩ | ⟨g, cap', cur, hv, hb, hg, hn, hc, hs, ht⟩
  · cases hv
  · cases hv
    refine ⟨rfl, (Array.getElem?_eq_some_iff.1 hg).1, fun j hj => ⟨?_, sort_frozen w g _ cur e hg⟩⟩
    have hj : j < xs.length := by simpa using hj
    have b := hr.2 j xs[j] (List.getElem?_eq_getElem hj)
    have b : List.take 1 (List.drop (j * 1) cells) = [Value.int .i64 xs[j]] := b
    have a : cells[j]? = some (Value.int .i64 xs[j]) := by
      have c := congrArg (fun l => l[0]?) b
      simpa using c
    rw [← ht, List.getElem?_take] at a
    split at a
    · show w.cell? ⟨g, 0 + j, none⟩ = _
      rw [cell_of_row w g _ cur e (0, 0) hg, Nat.zero_add]
      rw [Array.getElem?_toList] at a
      rw [a]
      simp [hj]
    · cases a
theorem isort_at {P : Program} {fid : Nat} (u0 : List Int) (ao1 : Option Addr) (cap2 : Nat) (B : Nat) (w0 : World) (Z0 : Fz) (Rr : List Res) (Z : Fz) (w : World) {e : TypeId} (hM0 : Mem B [] w0 Z0 ((.own t6 e ao1 cap2 u0) :: Rr) Z w)
    (h1 : ∀ (blk off cap : Nat) (zs : List Int) (w : World) (hH : Holds (Value.int .i64) w blk off zs.toArray) (hblk : blk < w.heap.size) (hsz : zs.length < 4611686018427387904), Calls P fid #[.slice (some ⟨blk, off, none⟩) zs.length cap] w fun e w' => e = .returned (.tuple #[]) ∧ ∃ n os, w' = grow (putRow (Value.int .i64) (Go.Sort.ahead w n) blk off (zs.mergeSort fun x y => decide (x ≤ y)).toArray) os)
    (h2 : ∀ (p : Option Addr) (cap : Nat) (w : World), Calls P fid #[.slice p 0 cap] w fun e w' => e = .returned (.tuple #[]) ∧ w' = w) :
    Calls P fid #[.slice ao1 u0.length cap2] w fun e9 w' => ∃ (Z' : Fz), e9 = .returned (.tuple #[]) ∧ Fz.le Z Z' ∧ ((isortS u0).length = u0.length) ∧ Mem B [] w0 Z0 ((.own t6 e ao1 cap2 (isortS u0)) :: Rr) Z' w' := by
  have hr := hM0.res _ List.mem_cons_self
  cases ao1 with
  | none =>
    obtain ⟨_, _, cells, ho, _⟩ := hr
    rcases ho.2 with ⟨hv, hn⟩ | ⟨g, cap', cur, hv, _⟩
    · have : u0 = [] := List.eq_nil_of_length_eq_zero hn
      subst this
      have a : isortS [] = [] := by unfold isortS; exact List.mergeSort_nil
      rw [a]
      exact (h2 none cap2 w).mono fun _ _ ⟨ha, hb⟩ => by subst hb; exact ⟨Z, ha, Fz.le.refl Z, rfl, hM0⟩
    · cases hv
  | some ad =>
    obtain ⟨ha, hb, hc⟩ := sort_holds hr
    have hsm : u0.length < 4611686018427387904 := by
      have := hr.2.1
      have e : lim = 140737488355328 := rfl
      omega
    have hcall := h1 ad.block 0 cap2 u0 w hc hb hsm
    rw [← ha] at hcall
    refine hcall.mono ?_
    rintro _ _ ⟨he, n, os, rfl⟩
    exact ⟨Z, he, Fz.le.refl Z, isort_len u0, sort_mem hM0 0 rfl n os (isortS u0) (isort_len u0)⟩
theorem isort_fun (u0 : List Int) (ao1 : Option Addr) (cap2 : Nat) (B : Nat) (w0 : World) (Z0 : Fz) (Rr : List Res) (Z : Fz) (w : World) (hM0 : Mem B [] w0 Z0 ((.own t6 3 ao1 cap2 u0) :: Rr) Z w) (hZ : Z.on w) : Calls Tryz.prog 9 #[.slice ao1 u0.length cap2] w fun e w' => ∃ (Z' : Fz), e = .returned (.tuple #[]) ∧ Fz.le Z Z' ∧ ((isortS u0).length = u0.length) ∧ Mem B [] w0 Z0 ((.own t6 3 ao1 cap2 (isortS u0)) :: Rr) Z' w' :=
  isort_at u0 ao1 cap2 B w0 Z0 Rr Z w hM0 (fun blk off cap zs w hH hb hs => Any.slices_Sort_int Tryz.lays189 blk off cap zs w hH hb hs) (fun p cap w => Any.slices_Sort_int_none Tryz.lays189 p cap w)

theorem teq_walk (u0 : List (Int × Int × Int × Int × Int)) (u1 : List (Int × Int × Int × Int × Int)) (ao1 : Option Addr) (cap2 : Nat) (ao4 : Option Addr) (cap5 : Nat) (Z : Fz) (w : World) (hs3 : SlR (tyFlat (fun x : Int × Int × Int × Int × Int => [i6 x.1, i6 x.2.1, i6 x.2.2.1, i6 x.2.2.2.1, i6 x.2.2.2.2]) 5 (fun _ => rfl) (fun x => by simp [Value.oneCell'])) Z ao1 cap2 u0) (hs6 : SlR (tyFlat (fun x : Int × Int × Int × Int × Int => [i6 x.1, i6 x.2.1, i6 x.2.2.1, i6 x.2.2.2.1, i6 x.2.2.2.2]) 5 (fun _ => rfl) (fun x => by simp [Value.oneCell'])) Z ao4 cap5 u1) (hZ : Z.on w) {K : Bool → Prop} (hp : teq_vc u0 u1 K) : Calls Tryz.prog 10 #[.slice ao1 u0.length cap2, .slice ao4 u1.length cap5] w fun e w' => ∃ r : Bool, e = .returned (.bool r) ∧ K r ∧ Below w.heap.size w w' := by
 refine enter0 Tryz.func10 rfl rfl (by kernel_rfl) ?_; intro a0 C; have f := Mem.start w Z hZ
 have n := hp (hs3.small) (hs6.small)
 refine sqB C f [] [] [] ?_; intro aG E
 refine s_ (sqB E f [] [] [(10, .bool ((u0.length : Int) != (u1.length : Int)))] ?_); intro aH i
 refine cd i (t := (u0.length : Int) != (u1.length : Int)) (by kernel_rfl) (fun u => ?_) (fun u => ?_)
 · -- yes
  have aa := n.1 u
  refine sqB i f [] [] [(4, .bool false)] ?_; intro aI ab
  exact r_ (h_ (ra1 ab (.bool false) ⟨false, rfl, aa, f.below⟩))
 · -- no
  have ac := n.2 u
  refine k_ (s_ (sqB i f [] [] [(12, i6 (u0.length : Int)), (13, i6 0)] ?_)); intro F G
  apply b_
  have H : Fr 26 [] [⟨0, [], .slice ao1 u0.length cap2⟩, ⟨1, [], .slice ao4 u1.length cap5⟩, ⟨12, [], i6 (u0.length : Int)⟩, ⟨13, [], i6 0⟩] F := G.reg
  obtain ⟨ad, ae, af, ag⟩ := ac
  refine lp (ι := Int) (fun s => [⟨0, [], .slice ao1 u0.length cap2⟩, ⟨1, [], .slice ao4 u1.length cap5⟩, ⟨12, [], i6 (u0.length : Int)⟩, ⟨13, [], i6 s⟩]) (fun s => []) (fun s => Z) (fun s => ad s) (fun s => ae s) 0 af (by exact H.region (by kernel_rfl) (by kernel_rfl)) (by exact f) ?_
  rintro d ah ai aj J L
  have o := ag d ah
  refine sqB J L [] [] [(14, .bool (decide (d < (u0.length : Int))))] ?_; intro aJ j
  apply s_
  refine cd j (t := decide (d < (u0.length : Int))) (by kernel_rfl) (fun v => ?_) (fun v => ?_)
  · -- yes
   have ak := o.1 v
   refine k_ (s_ (b_ (sqB j L [] [] [(5, i6 d)] ?_))); intro al N
   have O : Fr 26 [] [⟨0, [], .slice ao1 u0.length cap2⟩, ⟨1, [], .slice ao4 u1.length cap5⟩, ⟨5, [], i6 d⟩, ⟨12, [], i6 (u0.length : Int)⟩, ⟨13, [], i6 d⟩] al := N.reg
   refine sqQH mixed (by kernel_rfl) L ?_; intro am P
   refine q1 O 16 (.slice ao1 u0.length cap2) ?_; intro aK Q
   refine q1 Q 17 (i6 d) ?_; intro aL R
   obtain ⟨an, S⟩ := ak
   refine qx_ R hs3 d an .i64 38 40 ?_; intro aM aN ao a aO ap aq ar y
   have au := S a ap
   obtain rfl : ao = ([i6 a.1, i6 a.2.1, i6 a.2.2.1, i6 a.2.2.2.1, i6 a.2.2.2.2] : List Value) := ar
   refine qu_ y (.agg #[i6 a.1, i6 a.2.1, i6 a.2.2.1, i6 a.2.2.2.1, i6 a.2.2.2.2]) (fun v81 hC => lza y hC.fz aq 0 (g := []) (m := 5) (vs := [i6 a.1, i6 a.2.1, i6 a.2.2.1, i6 a.2.2.2.1, i6 a.2.2.2.2]) rfl (by kernel_rfl) (by kernel_rfl) (by kernel_rfl) (by kernel_rfl) rfl) ?_; intro aP U
   refine q1 U 20 (.slice ao4 u1.length cap5) ?_; intro aQ V
   refine q1 V 21 (i6 d) ?_; intro aR W
   obtain ⟨av, X⟩ := au
   refine qx_ W hs6 d av .i64 38 40 ?_; intro aS aT aw c aU ax ay az z
   have p := X c ax
   obtain rfl : aw = ([i6 c.1, i6 c.2.1, i6 c.2.2.1, i6 c.2.2.2.1, i6 c.2.2.2.2] : List Value) := az
   refine qu_ z (.agg #[i6 c.1, i6 c.2.1, i6 c.2.2.1, i6 c.2.2.2.1, i6 c.2.2.2.2]) (fun v103 hC => lza z hC.fz ay 0 (g := []) (m := 5) (vs := [i6 c.1, i6 c.2.1, i6 c.2.2.1, i6 c.2.2.2.1, i6 c.2.2.2.2]) rfl (by kernel_rfl) (by kernel_rfl) (by kernel_rfl) (by kernel_rfl) rfl) ?_; intro aV A
   refine qu_ A (.bool (!((a.1 == c.1) && ((a.2.1 == c.2.1) && ((a.2.2.1 == c.2.2.1) && ((a.2.2.2.1 == c.2.2.2.1) && ((a.2.2.2.2 == c.2.2.2.2) && true))))))) (fun v106 hC => nea_run A (g := []) (e := 3) (len := 5) (xs := #[i6 a.1, i6 a.2.1, i6 a.2.2.1, i6 a.2.2.2.1, i6 a.2.2.2.2]) (ys := #[i6 c.1, i6 c.2.1, i6 c.2.2.1, i6 c.2.2.2.1, i6 c.2.2.2.2]) (b := (a.1 == c.1) && ((a.2.1 == c.2.1) && ((a.2.2.1 == c.2.2.1) && ((a.2.2.2.1 == c.2.2.2.1) && ((a.2.2.2.2 == c.2.2.2.2) && true))))) rfl (by kernel_rfl) (by kernel_rfl) (by kernel_rfl) (by kernel_rfl) rfl) ?_; intro aW l
   refine qnl (P _ ?_); intro aX q
   refine cd l (t := !((a.1 == c.1) && ((a.2.1 == c.2.1) && ((a.2.2.1 == c.2.2.1) && ((a.2.2.2.1 == c.2.2.2.1) && ((a.2.2.2.2 == c.2.2.2.2) && true)))))) (by kernel_rfl) (fun B => ?_) (fun B => ?_)
   · -- yes
    have aA := p.1 B
    refine sqB l q [] [] [(4, .bool false)] ?_; intro aY aB
    exact r_ (i_ (h_ (h_ (i_ (h_ (ra1 aB (.bool false) ⟨false, rfl, aA, q.below⟩))))))
   · -- no
    have Y := p.2 B
    refine l_ (j_ (t_ (rgB l q [] [] [(13, i6 (w64 (d + 1)))] ?_))); intro aZ aC
    exact d_ ⟨w64 (d + 1), Y.1, Y.2, (aC.region (by kernel_rfl) (by kernel_rfl)).anyβ _ (by kernel_rfl), q.kp⟩
  · -- no
   have aD := o.2 v
   refine x_ (y_ (y_ (z_ (t_ (sqB j L [] [] [(4, .bool true)] ?_))))); intro a1 aE
   exact r_ (ra1 aE (.bool true) ⟨true, rfl, aD, L.below⟩)

end Go.Proofs.YtdenmllkjdijlaaGreatDoor
set_option linter.unusedVariables false
set_option linter.unusedSimpArgs false
set_option linter.defProp false
set_option maxRecDepth 100000
set_option maxHeartbeats 0
namespace Go.Proofs.YtdenmllkjdijlaaGreatDoor
open Go.Sy Go.RowKit
abbrev e36Te (X : Line) (A0 : Option Addr) (C0 : Nat) : List Value := [i6 X.Time, i6 X.Bus, i6 X.F.ID, .bool X.F.Long, .bool X.F.Fast, .bool X.F.Remote, i6 X.F.Size, .slice A0 X.F.Data.length C0]
theorem starE : "*" ++ "errors.errorString" = "*errors.errorString" := by decide
theorem rowE (u : TypeId) (h : Tryz.prog.typeName? 3 u = some "*errors.errorString") : u = 182 :=
  Go.typeName_ptr_named (nm := "errors.errorString") (by rw [starE]; kernel_rfl) (by kernel_rfl) (by decide) u (by rw [starE]; exact h)

def teq_fun (u0 : List (Int × Int × Int × Int × Int)) (u1 : List (Int × Int × Int × Int × Int)) (ao1 : Option Addr) (cap2 : Nat) (ao4 : Option Addr) (cap5 : Nat) (Z : Fz) (w : World) (hs3 : SlR (tyFlat (fun x : Int × Int × Int × Int × Int => [i6 x.1, i6 x.2.1, i6 x.2.2.1, i6 x.2.2.2.1, i6 x.2.2.2.2]) 5 (fun _ => rfl) (fun x => by simp [Value.oneCell'])) Z ao1 cap2 u0) (hs6 : SlR (tyFlat (fun x : Int × Int × Int × Int × Int => [i6 x.1, i6 x.2.1, i6 x.2.2.1, i6 x.2.2.2.1, i6 x.2.2.2.2]) 5 (fun _ => rfl) (fun x => by simp [Value.oneCell'])) Z ao4 cap5 u1) (hZ : Z.on w) := f_ (teq_walk u0 u1 ao1 cap2 ao4 cap5 Z w hs3 hs6 hZ (teq_ok u0 u1))
theorem LTally_walk (u0 : List Line) (ao1 : Option Addr) (cap2 : Nat) (Z : Fz) (w : World) (hs3 : SlR tyLine Z ao1 cap2 u0) (hg5 : TabF Z 5 .u64 Lib.pow10Tab) (hg1 : ErrR Z 1) (hg2 : ErrR Z 2) (hZ : Z.on w) {K : Bool → Prop} (hp : LTally_vc u0 K) : Calls Tryz.prog 3 #[.slice ao1 u0.length cap2] w fun e w' => ∃ r : Bool, e = .returned (.bool r) ∧ K r ∧ Below w.heap.size w w' := by
 refine enter0 Tryz.func3 rfl rfl (by kernel_rfl) ?_; intro a0 cE; have bf := Mem.start w Z hZ
 have cF := hp (hs3.small)
 refine sqB cE bf [] [] [] ?_; intro a6 cG
 refine sqH ?_; intro hh cH
 refine s1 cG 20 (.slice ao1 u0.length cap2) ?_; intro a9 cI
 refine ck cI 6 #[.slice ao1 u0.length cap2] ?_
 refine (ttally_fun u0 ao1 cap2 _ _ hs3 bf.fz).mono ?_; rintro _ hi ⟨d, f, bg, rfl, hm⟩; refine ⟨_, rfl, ?_⟩; intro kD cJ; have cK := bf.callZ hm; have aQ := hm.ext.le
 replace hs3 := hs3.mono aQ
 replace hg5 := hg5.mono aQ
 replace hg1 := hg1.mono aQ
 replace hg2 := hg2.mono aQ
 have aR : Mem w.heap.size [] w Z [.own (tyFlat (fun x : Int × Int × Int × Int × Int => [i6 x.1, i6 x.2.1, i6 x.2.2.1, i6 x.2.2.2.1, i6 x.2.2.2.2]) 5 (fun _ => rfl) (fun x => by simp [Value.oneCell'])) 38 d f (tallyS u0).1] bg hi := cK
 have bh := cF (aR.ownSmall 0 rfl)
 refine bt cJ aR 5 [] [] [(3, .slice d (tallyS u0).1.length f), (4, i6 (tallyS u0).2)] ?_; intro kE cL
 apply cH
 refine s_ (sqH ?_); intro hj cM
 refine s1 cL 24 (.slice ao1 u0.length cap2) ?_; intro kF cN
 refine fc cN aR (rcheckl_fun u0 ao1 cap2 _ _ hs3 aR.fz) ?_; intro kG kH cO bw
 refine s1 cO 5 (i6 (checkS u0)) ?_; intro kI cP
 apply cM
 refine sqH ?_; intro hk cQ
 refine fc cP bw (traced_fun  _ _ hg5 hg1 hg2 bw.fz) ?_; intro kJ hl cR am
 refine bt cR am 5 [] [29, 30, 31] [(31, .bool ((checkS u0) != 0))] ?_; intro kK aS
 apply cQ
 refine c_ aS bh (fun _ hn => ?_) fun _ hr => ?_
 ·
  refine sqH ?_; intro ho cT
  refine fc aS am (traced_fun  _ _ hg5 hg1 hg2 am.fz) ?_; intro kL kM cU cV
  refine bt cU cV 11 [] [34, 35, 36, 37] [(2, .bool (((tallyS u0).2 == (checkS u0)) && (((tallyS u0).1.length : Int) == 0)))] ?_; intro kN hq
  apply cT
  exact r_ (h_ (ra1 hq (.bool (((tallyS u0).2 == (checkS u0)) && (((tallyS u0).1.length : Int) == 0))) ⟨((tallyS u0).2 == (checkS u0)) && (((tallyS u0).1.length : Int) == 0), rfl, hn, cV.below⟩))
 refine k_ (sqB aS am [] [] [(6, .slice none 0 0)] ?_); intro kO cW
 refine s_ (sqB cW am [] [] [(43, i6 0)] ?_); intro cX cY
 apply b_
 have cZ : Fr 166 [] [⟨0, [], .slice ao1 u0.length cap2⟩, ⟨3, [], .slice d (tallyS u0).1.length f⟩, ⟨4, [], i6 (tallyS u0).2⟩, ⟨6, [], .slice none 0 0⟩, ⟨43, [], i6 0⟩] cX := cY.reg
 have c0 : Mem w.heap.size [] w Z [.own (tyFlat (fun x : Int × Int × Int × Int × Int => [i6 x.1, i6 x.2.1, i6 x.2.2.1, i6 x.2.2.2.1, i6 x.2.2.2.2]) 5 (fun _ => rfl) (fun x => by simp [Value.oneCell'])) 38 none 0 ([] : List (Int × Int × Int × Int × Int)), .own (tyFlat (fun x : Int × Int × Int × Int × Int => [i6 x.1, i6 x.2.1, i6 x.2.2.1, i6 x.2.2.2.1, i6 x.2.2.2.2]) 5 (fun _ => rfl) (fun x => by simp [Value.oneCell'])) 38 d f (tallyS u0).1] bg hl := am.addNil (tyFlat (fun x : Int × Int × Int × Int × Int => [i6 x.1, i6 x.2.1, i6 x.2.2.1, i6 x.2.2.2.1, i6 x.2.2.2.2]) 5 (fun _ => rfl) (fun x => by simp [Value.oneCell'])) 38 (by decide)
 have c1 : Fr 166 [] [⟨0, [], .slice ao1 u0.length cap2⟩, ⟨3, [], .slice d (tallyS u0).1.length f⟩, ⟨4, [], i6 (tallyS u0).2⟩, ⟨6, [], .slice none ([] : List (Int × Int × Int × Int × Int)).length 0⟩, ⟨43, [], i6 0⟩] cX := cZ.reg
 obtain ⟨hs, ht, hu, hv⟩ := hr
 refine lp (ι := (List (Int × Int × Int × Int × Int)) × Int × (Option Addr) × Nat × Fz) (fun s => [⟨0, [], .slice ao1 u0.length cap2⟩, ⟨3, [], .slice d (tallyS u0).1.length f⟩, ⟨4, [], i6 (tallyS u0).2⟩, ⟨6, [], .slice s.2.2.1 s.1.length s.2.2.2.1⟩, ⟨43, [], i6 s.2.1⟩]) (fun s => [.own (tyFlat (fun x : Int × Int × Int × Int × Int => [i6 x.1, i6 x.2.1, i6 x.2.2.1, i6 x.2.2.2.1, i6 x.2.2.2.2]) 5 (fun _ => rfl) (fun x => by simp [Value.oneCell'])) 38 s.2.2.1 s.2.2.2.1 s.1, .own (tyFlat (fun x : Int × Int × Int × Int × Int => [i6 x.1, i6 x.2.1, i6 x.2.2.1, i6 x.2.2.2.1, i6 x.2.2.2.2]) 5 (fun _ => rfl) (fun x => by simp [Value.oneCell'])) 38 d f (tallyS u0).1]) (fun s => s.2.2.2.2) (fun s => hs s.1 s.2.1 ∧ Fz.le bg s.2.2.2.2) (fun s => ht s.1 s.2.1) ⟨([] : List (Int × Int × Int × Int × Int)), 0, none, 0, bg⟩ ⟨hu, Fz.le.refl _⟩ (by exact c1.reg) (by exact c0) ?_
 rintro ⟨R, c, ac, ad, c2⟩ ⟨hw, Y⟩ hx bz c3 c4
 have bi := hv R c hw
 have av := hs3.mono Y
 refine sqB c3 c4 [] [] [(44, .bool (decide (c < 4)))] ?_; intro kQ aU
 refine s_ (c_ aU bi (fun _ hy => ?_) fun _ kv => ?_)
 ·
  refine k_ (s_ (b_ (sqB aU c4 [] [] [(7, i6 c)] ?_))); intro kR c6
  refine sqH ?_; intro hz c7
  refine nw c6 c4 (fun b => .slice (sm b) 2 2) [.bool false, .bool true] 4 ?_; intro O kS c8 c9 bB
  refine bt c9 bB 2 [] [] [(47, i6 2), (48, i6 0)] ?_; intro da db
  apply c7
  apply b_
  have dc : Fr 166 [] [⟨0, [], .slice ao1 u0.length cap2⟩, ⟨3, [], .slice d (tallyS u0).1.length f⟩, ⟨4, [], i6 (tallyS u0).2⟩, ⟨6, [], .slice ac R.length ad⟩, ⟨7, [], i6 c⟩, ⟨43, [], i6 c⟩, ⟨46, [], .slice (sm O) 2 2⟩, ⟨47, [], i6 2⟩, ⟨48, [], i6 0⟩] da := db.reg
  have hA : Mem w.heap.size [] w Z [.own tyBool 4 (sm O) 2 ([false, true] : List Bool), .own (tyFlat (fun x : Int × Int × Int × Int × Int => [i6 x.1, i6 x.2.1, i6 x.2.2.1, i6 x.2.2.2.1, i6 x.2.2.2.2]) 5 (fun _ => rfl) (fun x => by simp [Value.oneCell'])) 38 ac ad R, .own (tyFlat (fun x : Int × Int × Int × Int × Int => [i6 x.1, i6 x.2.1, i6 x.2.2.1, i6 x.2.2.2.1, i6 x.2.2.2.2]) 5 (fun _ => rfl) (fun x => by simp [Value.oneCell'])) 38 d f (tallyS u0).1] c2 c8 := bB.rowOwn (T := tyBool) (xs := ([false, true] : List Bool)) 0 rfl (by decide) (by show 2 ≤ lim; decide) ((RepAll.one (T := tyBool) (x := false) rfl).append (RepAll.one (T := tyBool) (x := true) rfl))
  obtain ⟨bC, aJ, dd, hB⟩ := hA.freeze 0 rfl
  replace av := av.mono aJ
  replace Y := Y.mono aJ
  have de : Mem w.heap.size [] w Z [.own (tyFlat (fun x : Int × Int × Int × Int × Int => [i6 x.1, i6 x.2.1, i6 x.2.2.1, i6 x.2.2.2.1, i6 x.2.2.2.2]) 5 (fun _ => rfl) (fun x => by simp [Value.oneCell'])) 38 ac ad R, .own (tyFlat (fun x : Int × Int × Int × Int × Int => [i6 x.1, i6 x.2.1, i6 x.2.2.1, i6 x.2.2.2.1, i6 x.2.2.2.2]) 5 (fun _ => rfl) (fun x => by simp [Value.oneCell'])) 38 d f (tallyS u0).1] bC c8 := dd
  have df : Fr 166 [] [⟨0, [], .slice ao1 u0.length cap2⟩, ⟨3, [], .slice d (tallyS u0).1.length f⟩, ⟨4, [], i6 (tallyS u0).2⟩, ⟨6, [], .slice ac R.length ad⟩, ⟨7, [], i6 c⟩, ⟨43, [], i6 c⟩, ⟨46, [], .slice (sm O) ([false, true] : List Bool).length 2⟩, ⟨47, [], i6 2⟩, ⟨48, [], i6 0⟩] da := dc.reg
  obtain ⟨hD, hE, hF, hG⟩ := hy
  refine lp (ι := (List (Int × Int × Int × Int × Int)) × Int × (Option Addr) × Nat × Fz) (fun s => [⟨0, [], .slice ao1 u0.length cap2⟩, ⟨3, [], .slice d (tallyS u0).1.length f⟩, ⟨4, [], i6 (tallyS u0).2⟩, ⟨6, [], .slice s.2.2.1 s.1.length s.2.2.2.1⟩, ⟨7, [], i6 c⟩, ⟨43, [], i6 c⟩, ⟨46, [], .slice (sm O) ([false, true] : List Bool).length 2⟩, ⟨47, [], i6 2⟩, ⟨48, [], i6 s.2.1⟩]) (fun s => [.own (tyFlat (fun x : Int × Int × Int × Int × Int => [i6 x.1, i6 x.2.1, i6 x.2.2.1, i6 x.2.2.2.1, i6 x.2.2.2.2]) 5 (fun _ => rfl) (fun x => by simp [Value.oneCell'])) 38 s.2.2.1 s.2.2.2.1 s.1, .own (tyFlat (fun x : Int × Int × Int × Int × Int => [i6 x.1, i6 x.2.1, i6 x.2.2.1, i6 x.2.2.2.1, i6 x.2.2.2.2]) 5 (fun _ => rfl) (fun x => by simp [Value.oneCell'])) 38 d f (tallyS u0).1]) (fun s => s.2.2.2.2) (fun s => hD s.1 s.2.1 ∧ Fz.le bC s.2.2.2.2) (fun s => hE s.1 s.2.1) ⟨R, 0, ac, ad, bC⟩ ⟨hF, Fz.le.refl _⟩ (by exact df.reg) (by exact de) ?_
  rintro ⟨z, H, I, J, V⟩ ⟨hH, W⟩ hI hJ dg dh
  have bk := hG z H hH
  have az := av.mono W
  have aA := Y.mono W
  have aB := hB.mono W
  refine sqB dg dh [] [] [(49, .bool (decide (H < 2)))] ?_; intro kU aV
  refine s_ (c_ aV bk (fun _ hK => ?_) fun _ g5 => ?_)
  ·
   refine k_ (s_ (b_ (sqH ?_))); intro hL dj
   obtain ⟨hM, dk⟩ := hK
   refine ix_ aV aB H hM .i64 4 1 ?_; intro kV kW hN A kX hO aC hP dl
   have hQ := dk A hO
   obtain rfl : hN = ([.bool A] : List Value) := hP
   refine z1 dl dh 51 aC 0 (.bool A) rfl ?_; intro kY dm
   refine s1 dm 9 (.bool A) ?_; intro kZ dn
   apply dj
   refine sqH ?_; intro hR dp
   refine mkm dn dh (fun x : Int => i6 x) (fun g : SlG Int => g.v) (t := 30) (nog rfl _) rfl (by kernel_rfl) rfl ?_; intro j k0 dq dr ds
   have bl : Mem w.heap.size [] w Z ((.map (fun x : Int => i6 x) (fun g : SlG Int => g.v) j ([] : List (Int × SlG Int))) :: (.own (tyFlat (fun x : Int × Int × Int × Int × Int => [i6 x.1, i6 x.2.1, i6 x.2.2.1, i6 x.2.2.2.1, i6 x.2.2.2.2]) 5 (fun _ => rfl) (fun x => by simp [Value.oneCell'])) 38 I J z) :: (.own (tyFlat (fun x : Int × Int × Int × Int × Int => [i6 x.1, i6 x.2.1, i6 x.2.2.1, i6 x.2.2.2.1, i6 x.2.2.2.2]) 5 (fun _ => rfl) (fun x => by simp [Value.oneCell'])) 38 d f (tallyS u0).1) :: (hsM t6 3 ([] : List (Int × SlG Int)) [])) V dq := ds
   refine s1 dr 10 (.map (some j)) ?_; intro k1 dt
   apply dp
   refine sqB dt bl [] [] [(11, .slice none 0 0)] ?_; intro k2 du
   refine s_ (sqB du bl [] [] [(53, .slice ao1 u0.length cap2), (54, i6 (u0.length : Int)), (55, i6 0)] ?_); intro dv dw
   apply b_
   have dx : Fr 166 [] [⟨0, [], .slice ao1 u0.length cap2⟩, ⟨3, [], .slice d (tallyS u0).1.length f⟩, ⟨4, [], i6 (tallyS u0).2⟩, ⟨6, [], .slice I z.length J⟩, ⟨7, [], i6 c⟩, ⟨9, [], .bool A⟩, ⟨10, [], .map (some j)⟩, ⟨11, [], .slice none 0 0⟩, ⟨43, [], i6 c⟩, ⟨46, [], .slice (sm O) ([false, true] : List Bool).length 2⟩, ⟨47, [], i6 2⟩, ⟨48, [], i6 H⟩, ⟨53, [], .slice ao1 u0.length cap2⟩, ⟨54, [], i6 (u0.length : Int)⟩, ⟨55, [], i6 0⟩] dv := dw.reg
   have dy : Mem w.heap.size [] w Z ((.own t6 3 none 0 ([] : List Int)) :: (.map (fun x : Int => i6 x) (fun g : SlG Int => g.v) j ([] : List (Int × SlG Int))) :: (.own (tyFlat (fun x : Int × Int × Int × Int × Int => [i6 x.1, i6 x.2.1, i6 x.2.2.1, i6 x.2.2.2.1, i6 x.2.2.2.2]) 5 (fun _ => rfl) (fun x => by simp [Value.oneCell'])) 38 I J z) :: (.own (tyFlat (fun x : Int × Int × Int × Int × Int => [i6 x.1, i6 x.2.1, i6 x.2.2.1, i6 x.2.2.2.1, i6 x.2.2.2.2]) 5 (fun _ => rfl) (fun x => by simp [Value.oneCell'])) 38 d f (tallyS u0).1) :: (hsM t6 3 ([] : List (Int × SlG Int)) [])) V dq := bl.addNil t6 3 (by decide)
   have dz : Fr 166 [] [⟨0, [], .slice ao1 u0.length cap2⟩, ⟨3, [], .slice d (tallyS u0).1.length f⟩, ⟨4, [], i6 (tallyS u0).2⟩, ⟨6, [], .slice I z.length J⟩, ⟨7, [], i6 c⟩, ⟨9, [], .bool A⟩, ⟨10, [], .map (some j)⟩, ⟨11, [], .slice none ([] : List Int).length 0⟩, ⟨43, [], i6 c⟩, ⟨46, [], .slice (sm O) ([false, true] : List Bool).length 2⟩, ⟨47, [], i6 2⟩, ⟨48, [], i6 H⟩, ⟨53, [], .slice ao1 u0.length cap2⟩, ⟨54, [], i6 (u0.length : Int)⟩, ⟨55, [], i6 0⟩] dv := dx.reg
   obtain ⟨hS, hT, hU, hV⟩ := hQ
   refine lp (ι := (List Int) × Int × (List (Int × (List Int))) × (Option Addr) × Nat × (List (Int × SlG Int))) (fun s => [⟨0, [], .slice ao1 u0.length cap2⟩, ⟨3, [], .slice d (tallyS u0).1.length f⟩, ⟨4, [], i6 (tallyS u0).2⟩, ⟨6, [], .slice I z.length J⟩, ⟨7, [], i6 c⟩, ⟨9, [], .bool A⟩, ⟨10, [], .map (some j)⟩, ⟨11, [], .slice s.2.2.2.1 s.1.length s.2.2.2.2.1⟩, ⟨43, [], i6 c⟩, ⟨46, [], .slice (sm O) ([false, true] : List Bool).length 2⟩, ⟨47, [], i6 2⟩, ⟨48, [], i6 H⟩, ⟨53, [], .slice ao1 u0.length cap2⟩, ⟨54, [], i6 (u0.length : Int)⟩, ⟨55, [], i6 s.2.1⟩]) (fun s => ((.own t6 3 s.2.2.2.1 s.2.2.2.2.1 s.1) :: (.map (fun x : Int => i6 x) (fun g : SlG Int => g.v) j s.2.2.2.2.2) :: (.own (tyFlat (fun x : Int × Int × Int × Int × Int => [i6 x.1, i6 x.2.1, i6 x.2.2.1, i6 x.2.2.2.1, i6 x.2.2.2.2]) 5 (fun _ => rfl) (fun x => by simp [Value.oneCell'])) 38 I J z) :: (.own (tyFlat (fun x : Int × Int × Int × Int × Int => [i6 x.1, i6 x.2.1, i6 x.2.2.1, i6 x.2.2.2.1, i6 x.2.2.2.2]) 5 (fun _ => rfl) (fun x => by simp [Value.oneCell'])) 38 d f (tallyS u0).1) :: (hsM t6 3 s.2.2.2.2.2 []))) (fun s => V) (fun s => hS s.1 s.2.1 s.2.2.1 ∧ gmp s.2.2.2.2.2 = s.2.2.1) (fun s => hT s.1 s.2.1 s.2.2.1) ⟨([] : List Int), 0, ([] : List (Int × List Int)), none, 0, ([] : List (Int × SlG Int))⟩ ⟨hU, rfl⟩ (by exact dz.reg) (by exact dy) ?_
   rintro ⟨i, U, aO, u, y, L⟩ ⟨hW, ai⟩ hX hY dA dB
   have bm := hV i U aO hW
   refine sqB dA dB [] [] [(56, .bool (decide (U < (u0.length : Int))))] ?_; intro k3 aW
   refine s_ (c_ aW bm (fun _ h0 => ?_) fun _ eC => ?_)
   ·
    refine k_ (s_ (b_ (sqH ?_))); intro h1 dD
    obtain ⟨h2, dE⟩ := h0
    refine ix_ aW az U h2 .i64 36 64 ?_; intro k4 k5 k6 a k7 h3 h4 h5 dF
    have dG := dE a h3
    obtain ⟨aa, ab, rfl, h6⟩ := h5
    have bn := dG (h6.small)
    refine z2 dF dB 58 h4 0 8 (e36Te a aa ab) rfl ?_; intro k8 dH
    refine nw dH dB pb [i6 0, i6 0, i6 0, .bool false, .bool false, .bool false, i6 0, .slice none 0 0] 36 ?_; intro X k9 la bF dI
    refine sx bF dI 0 (e36Te a aa ab) 0 ?_; intro dJ dK
    have ae : Mem w.heap.size [] w Z ((.row X (e36Te a aa ab) 36) :: (.own t6 3 u y i) :: (.map (fun x : Int => i6 x) (fun g : SlG Int => g.v) j L) :: (.own (tyFlat (fun x : Int × Int × Int × Int × Int => [i6 x.1, i6 x.2.1, i6 x.2.2.1, i6 x.2.2.2.1, i6 x.2.2.2.2]) 5 (fun _ => rfl) (fun x => by simp [Value.oneCell'])) 38 I J z) :: (.own (tyFlat (fun x : Int × Int × Int × Int × Int => [i6 x.1, i6 x.2.1, i6 x.2.2.1, i6 x.2.2.2.1, i6 x.2.2.2.2]) 5 (fun _ => rfl) (fun x => by simp [Value.oneCell'])) 38 d f (tallyS u0).1) :: (hsM t6 3 L [])) V dJ := dK
    apply dD
    refine sqB bF ae [0, 0] [] [(69, .bool ((a.Bus == c) && (a.F.Long == A)))] ?_; intro lb aX
    refine c_ aX bn (fun _ dL => ?_) fun _ eB => ?_
    ·
     refine s_ (sqH ?_); intro h7 dM
     refine bt aX ae 4 [0] [] [(70, .map (some j)), (73, i6 a.F.ID)] ?_; intro lc dN
     refine lkM1 dN ae 2 ai a.F.ID (t := 30) (kt := 3) (et := 31) (nog rfl _) rfl (by kernel_rfl) rfl (by kernel_rfl) (by kernel_rfl) rfl (MKey.int (k := .i64) (by kernel_rfl)) (by kernel_rfl) (by kernel_rfl) ?_; intro bH ld h8 lf bI bJ
     have dO := dL h8 (mget_xs ai bI)
     obtain ⟨bK, bL⟩ : ∃ b, bH.isNone = b := ⟨_, rfl⟩; have bo := dO bK ⟨(by rw [← bL]; exact mget_none_nil ai bI), (by rw [← bL]; exact (ae.takeM (hsM_step (hsM_step (hsM_step (hsM_step (hsM_step lpr))))) (by decide) a.F.ID bI).ownNil 0 rfl)⟩
     refine u_ bJ (.bool bK) (re_ (r := .ok (.value (.bool bH.isNone)) dJ) (by cases bH <;> exact p0 bJ (by kernel_rfl)) (by rw [bL])) ?_; intro h9 aY
     apply dM
     refine c_ aY bo (fun _ ia => ?_) fun _ eg => ?_
     ·
      refine rgH ?_; intro ib dP
      refine bt aY ae 4 [0] [] [(76, .slice u i.length y), (79, i6 a.F.ID)] ?_; intro lg dQ
      refine nw dQ ae (fun b => .slice (sm b) 1 1) [i6 a.F.ID] 3 ?_; intro aZ lh li dR bN
      obtain ⟨ic, dS⟩ := ia
      refine ap dR bN 2 (T := t6) (xs := i) (ys := [a.F.ID]) (ao := u) (cap := y) (ao2 := (sm aZ)) (cap2 := 1) (t := 31) (e := 3) (bytes := 8) (nog rfl _) rfl (by kernel_rfl) rfl (by kernel_rfl) (by kernel_rfl) (by kernel_rfl) rfl (Src.row bN 0 rfl (RepAll.one (T := t6) (x := a.F.ID) rfl)) ic ?_; intro an aq lj id lk dT dU
      have dV : Mem w.heap.size [] w Z ((.row aZ [i6 a.F.ID] 3) :: (.row X (e36Te a aa ab) 36) :: (.own t6 3 an aq (i ++ [a.F.ID])) :: (.map (fun x : Int => i6 x) (fun g : SlG Int => g.v) j L) :: (.own (tyFlat (fun x : Int × Int × Int × Int × Int => [i6 x.1, i6 x.2.1, i6 x.2.2.1, i6 x.2.2.2.1, i6 x.2.2.2.2]) 5 (fun _ => rfl) (fun x => by simp [Value.oneCell'])) 38 I J z) :: (.own (tyFlat (fun x : Int × Int × Int × Int × Int => [i6 x.1, i6 x.2.1, i6 x.2.2.1, i6 x.2.2.2.1, i6 x.2.2.2.2]) 5 (fun _ => rfl) (fun x => by simp [Value.oneCell'])) 38 d f (tallyS u0).1) :: (hsM t6 3 L [])) V id := dU
      refine s1 dT 11 (.slice an (i ++ [a.F.ID]).length aq) ?_; intro ie dW
      apply dP
      apply t_
      have dX : Fr 166 [] [⟨0, [], .slice ao1 u0.length cap2⟩, ⟨3, [], .slice d (tallyS u0).1.length f⟩, ⟨4, [], i6 (tallyS u0).2⟩, ⟨6, [], .slice I z.length J⟩, ⟨7, [], i6 c⟩, ⟨9, [], .bool A⟩, ⟨10, [], .map (some j)⟩, ⟨11, [], .slice an (i ++ [a.F.ID]).length aq⟩, ⟨13, [], pt X 0⟩, ⟨43, [], i6 c⟩, ⟨46, [], .slice (sm O) ([false, true] : List Bool).length 2⟩, ⟨47, [], i6 2⟩, ⟨48, [], i6 H⟩, ⟨53, [], .slice ao1 u0.length cap2⟩, ⟨54, [], i6 (u0.length : Int)⟩, ⟨55, [], i6 U⟩] ie := dW.reg
      refine rgS mixed dV [(0, true), (1, true), (2, true), (3, true), (4, true), (5, true), (6, true), (7, true), (9, true), (10, true), (8, true), (11, false), (12, false), (13, false)] [13] [1, 3] [.row X (e36Te a aa ab) 36, .map (fun x : Int => i6 x) (fun g : SlG Int => g.v) j L] ?_
      intro ig dY ll dZ
      have d0 := Fz.le.refl V
      refine cS dX 10 [0, 0, 0] [] [(82, .map (some j)), (85, i6 a.F.ID), (86, .map (some j)), (89, i6 a.F.ID), (92, i6 a.Time)] ?_; intro lm d1
      refine clkM rfl d1 1 rfl a.F.ID (t := 30) (kt := 3) (et := 31) (nog rfl _) rfl (by kernel_rfl) rfl (by kernel_rfl) (by kernel_rfl) (MKey.int (k := .i64) (by kernel_rfl)) (by kernel_rfl) (by kernel_rfl) ?_; intro d2 d3 af ln d4 d5
      have ih := dS af (mget_xs ai d4)
      refine eS rfl ?_; intro ii d6
      refine nw d5 dZ (fun b => .slice (sm b) 1 1) [i6 a.Time] 3 ?_; intro a1 lo ij d7 bO
      refine nl (qnI (d6 _ _ (bO.cst d0 [2, 4]) ?_))
      refine eS rfl ?_; intro ik d8
      have bP : Mem w.heap.size [] w Z ((.own t6 3 d2 d3 af) :: (.row a1 [i6 a.Time] 3) :: (.row aZ [i6 a.F.ID] 3) :: (.row X (e36Te a aa ab) 36) :: (.own t6 3 an aq (i ++ [a.F.ID])) :: (.map (fun x : Int => i6 x) (fun g : SlG Int => g.v) j L) :: (.own (tyFlat (fun x : Int × Int × Int × Int × Int => [i6 x.1, i6 x.2.1, i6 x.2.2.1, i6 x.2.2.2.1, i6 x.2.2.2.2]) 5 (fun _ => rfl) (fun x => by simp [Value.oneCell'])) 38 I J z) :: (.own (tyFlat (fun x : Int × Int × Int × Int × Int => [i6 x.1, i6 x.2.1, i6 x.2.2.1, i6 x.2.2.2.1, i6 x.2.2.2.2]) 5 (fun _ => rfl) (fun x => by simp [Value.oneCell'])) 38 d f (tallyS u0).1) :: (hsM t6 3 (mdel L a.F.ID) [])) V ij := (bO.takeM (hsM_step (hsM_step (hsM_step (hsM_step (hsM_step (hsM_step (hsM_step lpr))))))) (by decide) a.F.ID d4).perm (List.Perm.cons _ (hsM_step (hsM_step (hsM_step (hsM_step (hsM_step (hsM_step (hsM_step lpr))))))).symm)
      obtain ⟨il, d9⟩ := ih
      refine ap d7 bP 0 (T := t6) (xs := af) (ys := [a.Time]) (ao := d2) (cap := d3) (ao2 := (sm a1)) (cap2 := 1) (t := 31) (e := 3) (bytes := 8) (nog rfl _) rfl (by kernel_rfl) rfl (by kernel_rfl) (by kernel_rfl) (by kernel_rfl) rfl (Src.row bP 1 rfl (RepAll.one (T := t6) (x := a.Time) rfl)) il ?_; intro a2 a3 im io lq bQ ea
      have bR : Mem w.heap.size [] w Z ((.own t6 3 a2 a3 (af ++ [a.Time])) :: (.row a1 [i6 a.Time] 3) :: (.row aZ [i6 a.F.ID] 3) :: (.row X (e36Te a aa ab) 36) :: (.own t6 3 an aq (i ++ [a.F.ID])) :: (.map (fun x : Int => i6 x) (fun g : SlG Int => g.v) j L) :: (.own (tyFlat (fun x : Int × Int × Int × Int × Int => [i6 x.1, i6 x.2.1, i6 x.2.2.1, i6 x.2.2.2.1, i6 x.2.2.2.2]) 5 (fun _ => rfl) (fun x => by simp [Value.oneCell'])) 38 I J z) :: (.own (tyFlat (fun x : Int × Int × Int × Int × Int => [i6 x.1, i6 x.2.1, i6 x.2.2.1, i6 x.2.2.2.1, i6 x.2.2.2.2]) 5 (fun _ => rfl) (fun x => by simp [Value.oneCell'])) 38 d f (tallyS u0).1) :: (hsM t6 3 (mdel L a.F.ID) [])) V io := ea
      refine nl (qnI (d8 _ _ (bR.cst d0 [3, 5]) ?_))
      refine eL rfl ?_; intro ip eb
      refine mup bQ bR 5 (m := L) a.F.ID (⟨a2, a3, af ++ [a.Time]⟩ : SlG Int) (t := 30) (kt := 3) (et := 31) (nog rfl _) rfl rfl (by kernel_rfl) (by kernel_rfl) (by kernel_rfl) rfl (MKey.int (k := .i64) (by kernel_rfl)) (by kernel_rfl) ?_; intro iq ec
      have bS : Mem w.heap.size [] w Z ((.row a1 [i6 a.Time] 3) :: (.row aZ [i6 a.F.ID] 3) :: (.row X (e36Te a aa ab) 36) :: (.own t6 3 an aq (i ++ [a.F.ID])) :: (.map (fun x : Int => i6 x) (fun g : SlG Int => g.v) j (mput L a.F.ID (⟨a2, a3, af ++ [a.Time]⟩ : SlG Int))) :: (.own (tyFlat (fun x : Int × Int × Int × Int × Int => [i6 x.1, i6 x.2.1, i6 x.2.2.1, i6 x.2.2.2.1, i6 x.2.2.2.2]) 5 (fun _ => rfl) (fun x => by simp [Value.oneCell'])) 38 I J z) :: (.own (tyFlat (fun x : Int × Int × Int × Int × Int => [i6 x.1, i6 x.2.1, i6 x.2.2.1, i6 x.2.2.2.1, i6 x.2.2.2.2]) 5 (fun _ => rfl) (fun x => by simp [Value.oneCell'])) 38 d f (tallyS u0).1) :: (hsM t6 3 (mput L a.F.ID (⟨a2, a3, af ++ [a.Time]⟩ : SlG Int)) [])) V iq := ((ec.perm (lpr.trans (List.Perm.cons _ (hsM_step (hsM_step (hsM_step (hsM_step (hsM_step (hsM_step (hsM_step lpr)))))))))).putM a.F.ID).perm (hsM_step (hsM_step (hsM_step (hsM_step (hsM_step (hsM_step (hsM_step lpr))))))).symm
      obtain ⟨ed, ee⟩ : ∃ x, mput L a.F.ID (⟨a2, a3, af ++ [a.Time]⟩ : SlG Int) = x := ⟨_, rfl⟩; rw [ee] at bS; have ir : gmp ed = mput aO a.F.ID (af ++ [a.Time]) := by rw [← ee, mput_gmp, ai]
      have ef : Fr 166 [] [⟨0, [], .slice ao1 u0.length cap2⟩, ⟨3, [], .slice d (tallyS u0).1.length f⟩, ⟨4, [], i6 (tallyS u0).2⟩, ⟨6, [], .slice I z.length J⟩, ⟨7, [], i6 c⟩, ⟨9, [], .bool A⟩, ⟨10, [], .map (some j)⟩, ⟨11, [], .slice an (i ++ [a.F.ID]).length aq⟩, ⟨13, [], pt X 0⟩, ⟨43, [], i6 c⟩, ⟨46, [], .slice (sm O) ([false, true] : List Bool).length 2⟩, ⟨47, [], i6 2⟩, ⟨48, [], i6 H⟩, ⟨53, [], .slice ao1 u0.length cap2⟩, ⟨54, [], i6 (u0.length : Int)⟩, ⟨55, [], i6 U⟩, ⟨82, [], .map (some j)⟩, ⟨85, [], i6 a.F.ID⟩, ⟨86, [], .map (some j)⟩, ⟨89, [], i6 a.F.ID⟩, ⟨92, [], i6 a.Time⟩, ⟨93, [], .slice (sm a1) 1 1⟩] im := bQ.reg
      refine nl (qnI (eb _ _ ?_))
      refine nS (dY _ _ ?_)
      refine j_ (t_ (rgB ef bS [] [] [(55, i6 (w64 (U + 1)))] ?_)); intro lr it
      exact d_ ⟨⟨i ++ [a.F.ID], w64 (U + 1), mput aO a.F.ID (af ++ [a.Time]), an, aq, ed⟩, ⟨d9.1, ir⟩, d9.2, (it.reg).anyβ _ (by kernel_rfl), bS.kp⟩
     apply k_
     have eh : Fr 166 [] [⟨0, [], .slice ao1 u0.length cap2⟩, ⟨3, [], .slice d (tallyS u0).1.length f⟩, ⟨4, [], i6 (tallyS u0).2⟩, ⟨6, [], .slice I z.length J⟩, ⟨7, [], i6 c⟩, ⟨9, [], .bool A⟩, ⟨10, [], .map (some j)⟩, ⟨11, [], .slice u i.length y⟩, ⟨13, [], pt X 0⟩, ⟨43, [], i6 c⟩, ⟨46, [], .slice (sm O) ([false, true] : List Bool).length 2⟩, ⟨47, [], i6 2⟩, ⟨48, [], i6 H⟩, ⟨53, [], .slice ao1 u0.length cap2⟩, ⟨54, [], i6 (u0.length : Int)⟩, ⟨55, [], i6 U⟩] h9 := aY.reg
     refine rgS mixed ae [(0, true), (1, true), (2, true), (3, true), (4, true), (5, true), (6, true), (7, true), (9, true), (10, true), (8, true), (11, false), (12, false), (13, false)] [13] [0, 2] [.row X (e36Te a aa ab) 36, .map (fun x : Int => i6 x) (fun g : SlG Int => g.v) j L] ?_
     intro iu ei ls ej
     have ek := Fz.le.refl V
     refine cS eh 10 [0, 0, 0] [] [(82, .map (some j)), (85, i6 a.F.ID), (86, .map (some j)), (89, i6 a.F.ID), (92, i6 a.Time)] ?_; intro lt el
     refine clkM rfl el 1 rfl a.F.ID (t := 30) (kt := 3) (et := 31) (nog rfl _) rfl (by kernel_rfl) rfl (by kernel_rfl) (by kernel_rfl) (MKey.int (k := .i64) (by kernel_rfl)) (by kernel_rfl) (by kernel_rfl) ?_; intro em en ag lu eo ep
     have iv := eg ag (mget_xs ai eo)
     refine eS rfl ?_; intro iw eq
     refine nw ep ej (fun b => .slice (sm b) 1 1) [i6 a.Time] 3 ?_; intro a4 lv iy er bT
     refine nl (qnI (eq _ _ (bT.cst ek [1, 3]) ?_))
     refine eS rfl ?_; intro iz es
     have bU : Mem w.heap.size [] w Z ((.own t6 3 em en ag) :: (.row a4 [i6 a.Time] 3) :: (.row X (e36Te a aa ab) 36) :: (.own t6 3 u y i) :: (.map (fun x : Int => i6 x) (fun g : SlG Int => g.v) j L) :: (.own (tyFlat (fun x : Int × Int × Int × Int × Int => [i6 x.1, i6 x.2.1, i6 x.2.2.1, i6 x.2.2.2.1, i6 x.2.2.2.2]) 5 (fun _ => rfl) (fun x => by simp [Value.oneCell'])) 38 I J z) :: (.own (tyFlat (fun x : Int × Int × Int × Int × Int => [i6 x.1, i6 x.2.1, i6 x.2.2.1, i6 x.2.2.2.1, i6 x.2.2.2.2]) 5 (fun _ => rfl) (fun x => by simp [Value.oneCell'])) 38 d f (tallyS u0).1) :: (hsM t6 3 (mdel L a.F.ID) [])) V iy := (bT.takeM (hsM_step (hsM_step (hsM_step (hsM_step (hsM_step (hsM_step lpr)))))) (by decide) a.F.ID eo).perm (List.Perm.cons _ (hsM_step (hsM_step (hsM_step (hsM_step (hsM_step (hsM_step lpr)))))).symm)
     obtain ⟨iA, eu⟩ := iv
     refine ap er bU 0 (T := t6) (xs := ag) (ys := [a.Time]) (ao := em) (cap := en) (ao2 := (sm a4)) (cap2 := 1) (t := 31) (e := 3) (bytes := 8) (nog rfl _) rfl (by kernel_rfl) rfl (by kernel_rfl) (by kernel_rfl) (by kernel_rfl) rfl (Src.row bU 1 rfl (RepAll.one (T := t6) (x := a.Time) rfl)) iA ?_; intro a5 a7 iB iC lw bV ev
     have bW : Mem w.heap.size [] w Z ((.own t6 3 a5 a7 (ag ++ [a.Time])) :: (.row a4 [i6 a.Time] 3) :: (.row X (e36Te a aa ab) 36) :: (.own t6 3 u y i) :: (.map (fun x : Int => i6 x) (fun g : SlG Int => g.v) j L) :: (.own (tyFlat (fun x : Int × Int × Int × Int × Int => [i6 x.1, i6 x.2.1, i6 x.2.2.1, i6 x.2.2.2.1, i6 x.2.2.2.2]) 5 (fun _ => rfl) (fun x => by simp [Value.oneCell'])) 38 I J z) :: (.own (tyFlat (fun x : Int × Int × Int × Int × Int => [i6 x.1, i6 x.2.1, i6 x.2.2.1, i6 x.2.2.2.1, i6 x.2.2.2.2]) 5 (fun _ => rfl) (fun x => by simp [Value.oneCell'])) 38 d f (tallyS u0).1) :: (hsM t6 3 (mdel L a.F.ID) [])) V iC := ev
     refine nl (qnI (es _ _ (bW.cst ek [2, 4]) ?_))
     refine eL rfl ?_; intro iD ew
     refine mup bV bW 4 (m := L) a.F.ID (⟨a5, a7, ag ++ [a.Time]⟩ : SlG Int) (t := 30) (kt := 3) (et := 31) (nog rfl _) rfl rfl (by kernel_rfl) (by kernel_rfl) (by kernel_rfl) rfl (MKey.int (k := .i64) (by kernel_rfl)) (by kernel_rfl) ?_; intro iE ex
     have bX : Mem w.heap.size [] w Z ((.row a4 [i6 a.Time] 3) :: (.row X (e36Te a aa ab) 36) :: (.own t6 3 u y i) :: (.map (fun x : Int => i6 x) (fun g : SlG Int => g.v) j (mput L a.F.ID (⟨a5, a7, ag ++ [a.Time]⟩ : SlG Int))) :: (.own (tyFlat (fun x : Int × Int × Int × Int × Int => [i6 x.1, i6 x.2.1, i6 x.2.2.1, i6 x.2.2.2.1, i6 x.2.2.2.2]) 5 (fun _ => rfl) (fun x => by simp [Value.oneCell'])) 38 I J z) :: (.own (tyFlat (fun x : Int × Int × Int × Int × Int => [i6 x.1, i6 x.2.1, i6 x.2.2.1, i6 x.2.2.2.1, i6 x.2.2.2.2]) 5 (fun _ => rfl) (fun x => by simp [Value.oneCell'])) 38 d f (tallyS u0).1) :: (hsM t6 3 (mput L a.F.ID (⟨a5, a7, ag ++ [a.Time]⟩ : SlG Int)) [])) V iE := ((ex.perm (lpr.trans (List.Perm.cons _ (hsM_step (hsM_step (hsM_step (hsM_step (hsM_step (hsM_step lpr))))))))).putM a.F.ID).perm (hsM_step (hsM_step (hsM_step (hsM_step (hsM_step (hsM_step lpr)))))).symm
     obtain ⟨ey, ez⟩ : ∃ x, mput L a.F.ID (⟨a5, a7, ag ++ [a.Time]⟩ : SlG Int) = x := ⟨_, rfl⟩; rw [ez] at bX; have iF : gmp ey = mput aO a.F.ID (ag ++ [a.Time]) := by rw [← ez, mput_gmp, ai]
     have eA : Fr 166 [] [⟨0, [], .slice ao1 u0.length cap2⟩, ⟨3, [], .slice d (tallyS u0).1.length f⟩, ⟨4, [], i6 (tallyS u0).2⟩, ⟨6, [], .slice I z.length J⟩, ⟨7, [], i6 c⟩, ⟨9, [], .bool A⟩, ⟨10, [], .map (some j)⟩, ⟨11, [], .slice u i.length y⟩, ⟨13, [], pt X 0⟩, ⟨43, [], i6 c⟩, ⟨46, [], .slice (sm O) ([false, true] : List Bool).length 2⟩, ⟨47, [], i6 2⟩, ⟨48, [], i6 H⟩, ⟨53, [], .slice ao1 u0.length cap2⟩, ⟨54, [], i6 (u0.length : Int)⟩, ⟨55, [], i6 U⟩, ⟨82, [], .map (some j)⟩, ⟨85, [], i6 a.F.ID⟩, ⟨86, [], .map (some j)⟩, ⟨89, [], i6 a.F.ID⟩, ⟨92, [], i6 a.Time⟩, ⟨93, [], .slice (sm a4) 1 1⟩] iB := bV.reg
     refine nl (qnI (ew _ _ ?_))
     refine nS (ei _ _ ?_)
     refine j_ (t_ (rgB eA bX [] [] [(55, i6 (w64 (U + 1)))] ?_)); intro lx iG
     exact d_ ⟨⟨i, w64 (U + 1), mput aO a.F.ID (ag ++ [a.Time]), u, y, ey⟩, ⟨eu.1, iF⟩, eu.2, (iG.reg).anyβ _ (by kernel_rfl), bX.kp⟩
    refine l_ (j_ (t_ (rgB aX ae [] [] [(55, i6 (w64 (U + 1)))] ?_))); intro ly iH
    exact d_ ⟨⟨i, w64 (U + 1), aO, u, y, L⟩, ⟨eB.1, ai⟩, eB.2, (iH.reg).anyβ _ (by kernel_rfl), ae.kp⟩
   refine x_ (y_ (y_ (z_ (t_ (sqH ?_))))); intro iI eD
   refine s1 aW 96 (.slice u i.length y) ?_; intro lA eE
   refine ck eE 9 #[.slice u i.length y] ?_
   refine (isort_fun i u y _ _ _ _ _ _ dB dB.fz).mono ?_; rintro _ bY ⟨iJ, rfl, aj, iK, hm⟩; refine ⟨_, rfl, ?_⟩; intro iL eF; have eG := hm
   replace W := W.mono aj
   have eH : Fr 166 [] [⟨0, [], .slice ao1 u0.length cap2⟩, ⟨3, [], .slice d (tallyS u0).1.length f⟩, ⟨4, [], i6 (tallyS u0).2⟩, ⟨6, [], .slice I z.length J⟩, ⟨7, [], i6 c⟩, ⟨9, [], .bool A⟩, ⟨10, [], .map (some j)⟩, ⟨11, [], .slice u (isortS i).length y⟩, ⟨43, [], i6 c⟩, ⟨46, [], .slice (sm O) ([false, true] : List Bool).length 2⟩, ⟨47, [], i6 2⟩, ⟨48, [], i6 H⟩, ⟨53, [], .slice ao1 u0.length cap2⟩, ⟨54, [], i6 (u0.length : Int)⟩, ⟨55, [], i6 U⟩, ⟨56, [], .bool (decide (U < (u0.length : Int)))⟩, ⟨96, [], .slice u (isortS i).length y⟩, ⟨97, [], .tuple #[]⟩] iL := by rw [iK]; exact eF.reg
   have bZ : Mem w.heap.size [] w Z ((.own t6 3 u y (isortS i)) :: (.map (fun x : Int => i6 x) (fun g : SlG Int => g.v) j L) :: (.own (tyFlat (fun x : Int × Int × Int × Int × Int => [i6 x.1, i6 x.2.1, i6 x.2.2.1, i6 x.2.2.2.1, i6 x.2.2.2.2]) 5 (fun _ => rfl) (fun x => by simp [Value.oneCell'])) 38 I J z) :: (.own (tyFlat (fun x : Int × Int × Int × Int × Int => [i6 x.1, i6 x.2.1, i6 x.2.2.1, i6 x.2.2.2.1, i6 x.2.2.2.2]) 5 (fun _ => rfl) (fun x => by simp [Value.oneCell'])) 38 d f (tallyS u0).1) :: (hsM t6 3 L [])) iJ bY := eG
   have iM := eC (bZ.ownSmall 0 rfl)
   apply eD
   refine sqB eH bZ [] [] [(98, .slice u (isortS i).length y), (99, i6 ((isortS i).length : Int)), (100, i6 0)] ?_; intro eI eJ
   apply b_
   have eK : Fr 166 [] [⟨0, [], .slice ao1 u0.length cap2⟩, ⟨3, [], .slice d (tallyS u0).1.length f⟩, ⟨4, [], i6 (tallyS u0).2⟩, ⟨6, [], .slice I z.length J⟩, ⟨7, [], i6 c⟩, ⟨9, [], .bool A⟩, ⟨10, [], .map (some j)⟩, ⟨43, [], i6 c⟩, ⟨46, [], .slice (sm O) ([false, true] : List Bool).length 2⟩, ⟨47, [], i6 2⟩, ⟨48, [], i6 H⟩, ⟨98, [], .slice u (isortS i).length y⟩, ⟨99, [], i6 ((isortS i).length : Int)⟩, ⟨100, [], i6 0⟩] eI := eJ.reg
   obtain ⟨iN, ak, eM, b0⟩ := bZ.freeze 0 rfl
   replace W := W.mono ak
   have iO : Mem w.heap.size [] w Z ((.map (fun x : Int => i6 x) (fun g : SlG Int => g.v) j L) :: (.own (tyFlat (fun x : Int × Int × Int × Int × Int => [i6 x.1, i6 x.2.1, i6 x.2.2.1, i6 x.2.2.2.1, i6 x.2.2.2.2]) 5 (fun _ => rfl) (fun x => by simp [Value.oneCell'])) 38 I J z) :: (.own (tyFlat (fun x : Int × Int × Int × Int × Int => [i6 x.1, i6 x.2.1, i6 x.2.2.1, i6 x.2.2.2.1, i6 x.2.2.2.2]) 5 (fun _ => rfl) (fun x => by simp [Value.oneCell'])) 38 d f (tallyS u0).1) :: (hsM t6 3 L [])) iN bY := eM
   obtain ⟨S, ah, eN, aE⟩ := iO.freezeMp (hsM_step (hsM_step (hsM_step lpr))) 0 rfl ai
   replace W := W.mono ah
   replace b0 := b0.mono ah
   have eO : Mem w.heap.size [] w Z [.own (tyFlat (fun x : Int × Int × Int × Int × Int => [i6 x.1, i6 x.2.1, i6 x.2.2.1, i6 x.2.2.2.1, i6 x.2.2.2.2]) 5 (fun _ => rfl) (fun x => by simp [Value.oneCell'])) 38 I J z, .own (tyFlat (fun x : Int × Int × Int × Int × Int => [i6 x.1, i6 x.2.1, i6 x.2.2.1, i6 x.2.2.2.1, i6 x.2.2.2.2]) 5 (fun _ => rfl) (fun x => by simp [Value.oneCell'])) 38 d f (tallyS u0).1] S bY := eN
   have eP : Fr 166 [] [⟨0, [], .slice ao1 u0.length cap2⟩, ⟨3, [], .slice d (tallyS u0).1.length f⟩, ⟨4, [], i6 (tallyS u0).2⟩, ⟨6, [], .slice I z.length J⟩, ⟨7, [], i6 c⟩, ⟨9, [], .bool A⟩, ⟨10, [], .map (some j)⟩, ⟨43, [], i6 c⟩, ⟨46, [], .slice (sm O) ([false, true] : List Bool).length 2⟩, ⟨47, [], i6 2⟩, ⟨48, [], i6 H⟩, ⟨98, [], .slice u (isortS i).length y⟩, ⟨99, [], i6 ((isortS i).length : Int)⟩, ⟨100, [], i6 0⟩] eI := eK.reg
   obtain ⟨iP, iQ, iR, iS⟩ := iM
   refine lp (ι := (List (Int × Int × Int × Int × Int)) × Int × (Option Addr) × Nat) (fun s => [⟨0, [], .slice ao1 u0.length cap2⟩, ⟨3, [], .slice d (tallyS u0).1.length f⟩, ⟨4, [], i6 (tallyS u0).2⟩, ⟨6, [], .slice s.2.2.1 s.1.length s.2.2.2⟩, ⟨7, [], i6 c⟩, ⟨9, [], .bool A⟩, ⟨10, [], .map (some j)⟩, ⟨43, [], i6 c⟩, ⟨46, [], .slice (sm O) ([false, true] : List Bool).length 2⟩, ⟨47, [], i6 2⟩, ⟨48, [], i6 H⟩, ⟨98, [], .slice u (isortS i).length y⟩, ⟨99, [], i6 ((isortS i).length : Int)⟩, ⟨100, [], i6 s.2.1⟩]) (fun s => [.own (tyFlat (fun x : Int × Int × Int × Int × Int => [i6 x.1, i6 x.2.1, i6 x.2.2.1, i6 x.2.2.2.1, i6 x.2.2.2.2]) 5 (fun _ => rfl) (fun x => by simp [Value.oneCell'])) 38 s.2.2.1 s.2.2.2 s.1, .own (tyFlat (fun x : Int × Int × Int × Int × Int => [i6 x.1, i6 x.2.1, i6 x.2.2.1, i6 x.2.2.2.1, i6 x.2.2.2.2]) 5 (fun _ => rfl) (fun x => by simp [Value.oneCell'])) 38 d f (tallyS u0).1]) (fun s => S) (fun s => iP s.1 s.2.1) (fun s => iQ s.1 s.2.1) ⟨z, 0, I, J⟩ iR (by exact eP.reg) (by exact eO) ?_
   rintro ⟨p, Q, M, N⟩ iT iU iV eQ eR
   have bp := iS p Q iT
   refine sqB eQ eR [] [] [(101, .bool (decide (Q < ((isortS i).length : Int))))] ?_; intro lB a8
   refine s_ (c_ a8 bp (fun _ iW => ?_) fun _ g4 => ?_)
   ·
    refine k_ (s_ (b_ (sqH ?_))); intro iX eU
    obtain ⟨iY, eV⟩ := iW
    refine ix_ a8 b0 Q iY .i64 3 8 ?_; intro lC lD iZ h lE i0 i1 i2 eW
    have eX := eV h i0
    obtain rfl : iZ = ([i6 h] : List Value) := i2
    refine z1 eW eR 103 i1 0 (i6 h) rfl ?_; intro lF eY
    refine s1 eY 15 (i6 h) ?_; intro lG eZ
    apply eU
    refine sqH ?_; intro i3 e0
    refine bt eZ eR 4 [] [] [(104, i6 c), (105, i6 h), (106, .map (some j)), (107, i6 h)] ?_; intro lH e1
    refine lkG e1 eR aE h (t := 30) (kt := 3) (et := 31) (nog rfl _) rfl (by kernel_rfl) rfl (by kernel_rfl) (by kernel_rfl) (MKey.int (k := .i64) (by kernel_rfl)) (by kernel_rfl) (by kernel_rfl) ?_; intro lI lJ n lK i4 i5 e2
    have bq := eX n i4 (i5.small)
    refine bt e2 eR 2 [] [] [(110, .agg #[i6 c, i6 h, i6 (n.length : Int), i6 (-1), i6 (-1)])] ?_; intro lL e4
    refine nw e4 eR pb [i6 0, i6 0, i6 0, i6 0, i6 0] 38 ?_; intro q lM lN b2 e5
    refine sx b2 e5 0 [i6 c, i6 h, i6 (n.length : Int), i6 (-1), i6 (-1)] 0 ?_; intro i7 e6
    have aF : Mem w.heap.size [] w Z [.row q [i6 c, i6 h, i6 (n.length : Int), i6 (-1), i6 (-1)] 38, .own (tyFlat (fun x : Int × Int × Int × Int × Int => [i6 x.1, i6 x.2.1, i6 x.2.2.1, i6 x.2.2.2.1, i6 x.2.2.2.2]) 5 (fun _ => rfl) (fun x => by simp [Value.oneCell'])) 38 M N p, .own (tyFlat (fun x : Int × Int × Int × Int × Int => [i6 x.1, i6 x.2.1, i6 x.2.2.1, i6 x.2.2.2.1, i6 x.2.2.2.2]) 5 (fun _ => rfl) (fun x => by simp [Value.oneCell'])) 38 d f (tallyS u0).1] S i7 := e6
    apply e0
    refine s_ (sqB b2 aF [] [] [(111, .bool A)] ?_); intro lO ba
    refine c_ ba bq (fun _ i8 => ?_) fun _ jO => ?_
    ·
     refine rgH ?_; intro i9 e7
     refine bt ba aF 3 [] [] [(113, i6 (w64 ((-1) - h))), (114, pt q 1)] ?_; intro lP b4
     refine sx b4 aF 0 [i6 c, i6 (w64 ((-1) - h)), i6 (n.length : Int), i6 (-1), i6 (-1)] 1 ?_; intro ja e8
     have b5 : Mem w.heap.size [] w Z [.row q [i6 c, i6 (w64 ((-1) - h)), i6 (n.length : Int), i6 (-1), i6 (-1)] 38, .own (tyFlat (fun x : Int × Int × Int × Int × Int => [i6 x.1, i6 x.2.1, i6 x.2.2.1, i6 x.2.2.2.1, i6 x.2.2.2.2]) 5 (fun _ => rfl) (fun x => by simp [Value.oneCell'])) 38 M N p, .own (tyFlat (fun x : Int × Int × Int × Int × Int => [i6 x.1, i6 x.2.1, i6 x.2.2.1, i6 x.2.2.2.1, i6 x.2.2.2.2]) 5 (fun _ => rfl) (fun x => by simp [Value.oneCell'])) 38 d f (tallyS u0).1] S ja := e8
     apply e7
     refine t_ (s_ (sqB b4 b5 [] [] [(17, i6 1)] ?_)); intro e9 fa
     apply b_
     have fb : Fr 166 [] [⟨0, [], .slice ao1 u0.length cap2⟩, ⟨3, [], .slice d (tallyS u0).1.length f⟩, ⟨4, [], i6 (tallyS u0).2⟩, ⟨6, [], .slice M p.length N⟩, ⟨7, [], i6 c⟩, ⟨9, [], .bool A⟩, ⟨10, [], .map (some j)⟩, ⟨15, [], i6 h⟩, ⟨16, [], pt q 0⟩, ⟨17, [], i6 1⟩, ⟨43, [], i6 c⟩, ⟨46, [], .slice (sm O) ([false, true] : List Bool).length 2⟩, ⟨47, [], i6 2⟩, ⟨48, [], i6 H⟩, ⟨98, [], .slice u (isortS i).length y⟩, ⟨99, [], i6 ((isortS i).length : Int)⟩, ⟨100, [], i6 Q⟩] e9 := fa.reg
     obtain ⟨jb, jc, jd, je⟩ := i8
     refine lp (ι := Int × Int × Int) (fun s => [⟨0, [], .slice ao1 u0.length cap2⟩, ⟨3, [], .slice d (tallyS u0).1.length f⟩, ⟨4, [], i6 (tallyS u0).2⟩, ⟨6, [], .slice M p.length N⟩, ⟨7, [], i6 c⟩, ⟨9, [], .bool A⟩, ⟨10, [], .map (some j)⟩, ⟨15, [], i6 h⟩, ⟨16, [], pt q 0⟩, ⟨17, [], i6 s.1⟩, ⟨43, [], i6 c⟩, ⟨46, [], .slice (sm O) ([false, true] : List Bool).length 2⟩, ⟨47, [], i6 2⟩, ⟨48, [], i6 H⟩, ⟨98, [], .slice u (isortS i).length y⟩, ⟨99, [], i6 ((isortS i).length : Int)⟩, ⟨100, [], i6 Q⟩]) (fun s => [.row q [i6 c, i6 (w64 ((-1) - h)), i6 (n.length : Int), i6 s.2.1, i6 s.2.2] 38, .own (tyFlat (fun x : Int × Int × Int × Int × Int => [i6 x.1, i6 x.2.1, i6 x.2.2.1, i6 x.2.2.2.1, i6 x.2.2.2.2]) 5 (fun _ => rfl) (fun x => by simp [Value.oneCell'])) 38 M N p, .own (tyFlat (fun x : Int × Int × Int × Int × Int => [i6 x.1, i6 x.2.1, i6 x.2.2.1, i6 x.2.2.2.1, i6 x.2.2.2.2]) 5 (fun _ => rfl) (fun x => by simp [Value.oneCell'])) 38 d f (tallyS u0).1]) (fun s => S) (fun s => jb s.1 s.2.1 s.2.2) (fun s => jc s.1 s.2.1 s.2.2) ⟨1, -1, -1⟩ jd (by exact fb.reg) (by exact b5) ?_
     rintro ⟨B, o, l⟩ jf jg jh fe ff
     have fh := je B o l jf
     refine s_ (sqH ?_); intro ji fi
     refine bt fe ff 3 [] [] [(115, i6 B), (116, .map (some j)), (117, i6 h)] ?_; intro lQ fj
     refine lkG fj ff aE h (t := 30) (kt := 3) (et := 31) (nog rfl _) rfl (by kernel_rfl) rfl (by kernel_rfl) (by kernel_rfl) (MKey.int (k := .i64) (by kernel_rfl)) (by kernel_rfl) (by kernel_rfl) ?_; intro lR lS b6 lT jj jk fk
     have br := fh b6 jj (jk.small)
     refine bt fk ff 2 [] [] [(120, .bool (decide (B < (b6.length : Int))))] ?_; intro jl bb
     apply fi
     refine c_ bb br (fun _ fm => ?_) fun _ jJ => ?_
     ·
      refine k_ (s_ (b_ ?_))
      have fn : Fr 166 [] [⟨0, [], .slice ao1 u0.length cap2⟩, ⟨3, [], .slice d (tallyS u0).1.length f⟩, ⟨4, [], i6 (tallyS u0).2⟩, ⟨6, [], .slice M p.length N⟩, ⟨7, [], i6 c⟩, ⟨9, [], .bool A⟩, ⟨10, [], .map (some j)⟩, ⟨15, [], i6 h⟩, ⟨16, [], pt q 0⟩, ⟨17, [], i6 B⟩, ⟨43, [], i6 c⟩, ⟨46, [], .slice (sm O) ([false, true] : List Bool).length 2⟩, ⟨47, [], i6 2⟩, ⟨48, [], i6 H⟩, ⟨98, [], .slice u (isortS i).length y⟩, ⟨99, [], i6 ((isortS i).length : Int)⟩, ⟨100, [], i6 Q⟩] jl := bb.reg
      refine sqQH mixed (by kernel_rfl) ff ?_; intro jm fo
      refine q1 fn 123 (.map (some j)) ?_; intro lU fp
      refine q1 fp 124 (i6 h) ?_; intro lV fq
      refine qlkG fq (fun _ hC => hC.fz) aE h (t := 30) (kt := 3) (et := 31) (nog rfl _) rfl (by kernel_rfl) rfl (by kernel_rfl) (by kernel_rfl) (MKey.int (k := .i64) (by kernel_rfl)) (by kernel_rfl) (by kernel_rfl) ?_; intro lW lX fr lY jn fs ft
      have jo := fm fr jn (fs.small)
      refine q1 ft 126 (i6 B) ?_; intro lZ fv
      obtain ⟨jp, fw⟩ := jo
      refine qx_ fv fs B jp .i64 3 8 ?_; intro l0 l1 jq C l2 jr js jt b8
      have fx := fw C jr
      obtain rfl : jq = ([i6 C] : List Value) := jt
      refine qz_ b8 js 0 (i6 C) rfl ?_; intro l3 fy
      refine q1 fy 129 (.map (some j)) ?_; intro l4 fA
      refine q1 fA 130 (i6 h) ?_; intro l5 fB
      refine qlkG fB (fun _ hC => hC.fz) aE h (t := 30) (kt := 3) (et := 31) (nog rfl _) rfl (by kernel_rfl) rfl (by kernel_rfl) (by kernel_rfl) (MKey.int (k := .i64) (by kernel_rfl)) (by kernel_rfl) (by kernel_rfl) ?_; intro l6 l7 fC l8 ju fD fE
      have jv := fx fC ju (fD.small)
      refine q1 fE 132 (i6 B) ?_; intro l9 fG
      refine q1 fG 133 (i6 (w64 (B - 1))) ?_; intro ma fH
      obtain ⟨jw, fI⟩ := jv
      refine qx_ fH fD (w64 (B - 1)) jw .i64 3 8 ?_; intro mb mc jx D md jy jz jA b9
      have bs := fI D jy
      obtain rfl : jx = ([i6 D] : List Value) := jA
      refine qz_ b9 jz 0 (i6 D) rfl ?_; intro me fJ
      refine q1 fJ 136 (i6 (w64 (C - D))) ?_; intro mf fK
      refine q1 fK 18 (i6 (w64 (C - D))) ?_; intro mg fL
      refine qnl (fo _ ?_); intro mh aG
      refine s_ (sqB fL aG [0] [] [(139, .bool (decide (o < 0)))] ?_); intro mi bc
      refine c_ bc bs (fun _ fM => ?_) fun _ fT => ?_
      ·
       refine rgH ?_; intro jB fN
       refine bt bc aG 2 [] [] [(140, i6 (w64 (C - D))), (141, pt q 3)] ?_; intro mj cb
       refine sx cb aG 0 [i6 c, i6 (w64 ((-1) - h)), i6 (n.length : Int), i6 (w64 (C - D)), i6 l] 3 ?_; intro jC fO
       have cc : Mem w.heap.size [] w Z [.row q [i6 c, i6 (w64 ((-1) - h)), i6 (n.length : Int), i6 (w64 (C - D)), i6 l] 38, .own (tyFlat (fun x : Int × Int × Int × Int × Int => [i6 x.1, i6 x.2.1, i6 x.2.2.1, i6 x.2.2.2.1, i6 x.2.2.2.2]) 5 (fun _ => rfl) (fun x => by simp [Value.oneCell'])) 38 M N p, .own (tyFlat (fun x : Int × Int × Int × Int × Int => [i6 x.1, i6 x.2.1, i6 x.2.2.1, i6 x.2.2.2.1, i6 x.2.2.2.2]) 5 (fun _ => rfl) (fun x => by simp [Value.oneCell'])) 38 d f (tallyS u0).1] S jC := fO
       apply fN
       refine t_ (rgH ?_); intro jD fP
       refine bt cb cc 9 [0, 0] [] [(145, i6 (min (w64 (C - D)) (w64 (C - D)))), (149, i6 (max l (w64 (C - D)))), (150, pt q 3)] ?_; intro mk ce
       refine sx ce cc 0 [i6 c, i6 (w64 ((-1) - h)), i6 (n.length : Int), i6 (min (w64 (C - D)) (w64 (C - D))), i6 l] 3 ?_; intro ml fQ
       refine s1 ce 151 (pt q 4) ?_; intro mm cf
       refine sx cf fQ 0 [i6 c, i6 (w64 ((-1) - h)), i6 (n.length : Int), i6 (min (w64 (C - D)) (w64 (C - D))), i6 (max l (w64 (C - D)))] 4 ?_; intro jE fR
       have fS : Mem w.heap.size [] w Z [.row q [i6 c, i6 (w64 ((-1) - h)), i6 (n.length : Int), i6 (min (w64 (C - D)) (w64 (C - D))), i6 (max l (w64 (C - D)))] 38, .own (tyFlat (fun x : Int × Int × Int × Int × Int => [i6 x.1, i6 x.2.1, i6 x.2.2.1, i6 x.2.2.2.1, i6 x.2.2.2.2]) 5 (fun _ => rfl) (fun x => by simp [Value.oneCell'])) 38 M N p, .own (tyFlat (fun x : Int × Int × Int × Int × Int => [i6 x.1, i6 x.2.1, i6 x.2.2.1, i6 x.2.2.2.1, i6 x.2.2.2.2]) 5 (fun _ => rfl) (fun x => by simp [Value.oneCell'])) 38 d f (tallyS u0).1] S jE := fR
       apply fP
       refine j_ (t_ (rgB cf fS [] [] [(17, i6 (w64 (B + 1)))] ?_)); intro mn jF
       exact d_ ⟨⟨w64 (B + 1), min (w64 (C - D)) (w64 (C - D)), max l (w64 (C - D))⟩, fM.1, fM.2, (jF.reg).anyβ _ (by kernel_rfl), fS.kp⟩
      refine k_ (rgH ?_); intro jG fU
      refine bt bc aG 9 [0, 0] [] [(145, i6 (min o (w64 (C - D)))), (149, i6 (max l (w64 (C - D)))), (150, pt q 3)] ?_; intro mo cg
      refine sx cg aG 0 [i6 c, i6 (w64 ((-1) - h)), i6 (n.length : Int), i6 (min o (w64 (C - D))), i6 l] 3 ?_; intro mp fV
      refine s1 cg 151 (pt q 4) ?_; intro mq ch
      refine sx ch fV 0 [i6 c, i6 (w64 ((-1) - h)), i6 (n.length : Int), i6 (min o (w64 (C - D))), i6 (max l (w64 (C - D)))] 4 ?_; intro jH fW
      have fX : Mem w.heap.size [] w Z [.row q [i6 c, i6 (w64 ((-1) - h)), i6 (n.length : Int), i6 (min o (w64 (C - D))), i6 (max l (w64 (C - D)))] 38, .own (tyFlat (fun x : Int × Int × Int × Int × Int => [i6 x.1, i6 x.2.1, i6 x.2.2.1, i6 x.2.2.2.1, i6 x.2.2.2.2]) 5 (fun _ => rfl) (fun x => by simp [Value.oneCell'])) 38 M N p, .own (tyFlat (fun x : Int × Int × Int × Int × Int => [i6 x.1, i6 x.2.1, i6 x.2.2.1, i6 x.2.2.2.1, i6 x.2.2.2.2]) 5 (fun _ => rfl) (fun x => by simp [Value.oneCell'])) 38 d f (tallyS u0).1] S jH := fW
      apply fU
      refine j_ (t_ (rgB ch fX [] [] [(17, i6 (w64 (B + 1)))] ?_)); intro mr jI
      exact d_ ⟨⟨w64 (B + 1), min o (w64 (C - D)), max l (w64 (C - D))⟩, fT.1, fT.2, (jI.reg).anyβ _ (by kernel_rfl), fX.kp⟩
     refine x_ (y_ (y_ (z_ (t_ (rgH ?_))))); intro jK fY
     refine bt bb ff 2 [0] [] [(152, .slice M p.length N), (153, .agg #[i6 c, i6 (w64 ((-1) - h)), i6 (n.length : Int), i6 o, i6 l])] ?_; intro ms fZ
     refine nw fZ ff (fun b => .slice (sm b) 1 1) [i6 c, i6 (w64 ((-1) - h)), i6 (n.length : Int), i6 o, i6 l] 38 ?_; intro f0 mt mu f1 ci
     obtain ⟨jL, f2⟩ := jJ
     refine ap f1 ci 2 (T := (tyFlat (fun x : Int × Int × Int × Int × Int => [i6 x.1, i6 x.2.1, i6 x.2.2.1, i6 x.2.2.2.1, i6 x.2.2.2.2]) 5 (fun _ => rfl) (fun x => by simp [Value.oneCell']))) (xs := p) (ys := [(c, w64 ((-1) - h), (n.length : Int), o, l)]) (ao := M) (cap := N) (ao2 := (sm f0)) (cap2 := 1) (t := 23) (e := 38) (bytes := 40) (nog rfl _) rfl (by kernel_rfl) rfl (by kernel_rfl) (by kernel_rfl) (by kernel_rfl) rfl (Src.row ci 0 rfl (RepAll.one (T := (tyFlat (fun x : Int × Int × Int × Int × Int => [i6 x.1, i6 x.2.1, i6 x.2.2.1, i6 x.2.2.2.1, i6 x.2.2.2.2]) 5 (fun _ => rfl) (fun x => by simp [Value.oneCell']))) (x := (c, w64 ((-1) - h), (n.length : Int), o, l)) rfl)) jL ?_; intro cl cm mv jM mw f3 f4
     have f5 : Mem w.heap.size [] w Z [.row f0 [i6 c, i6 (w64 ((-1) - h)), i6 (n.length : Int), i6 o, i6 l] 38, .row q [i6 c, i6 (w64 ((-1) - h)), i6 (n.length : Int), i6 o, i6 l] 38, .own (tyFlat (fun x : Int × Int × Int × Int × Int => [i6 x.1, i6 x.2.1, i6 x.2.2.1, i6 x.2.2.2.1, i6 x.2.2.2.2]) 5 (fun _ => rfl) (fun x => by simp [Value.oneCell'])) 38 cl cm (p ++ [(c, w64 ((-1) - h), (n.length : Int), o, l)]), .own (tyFlat (fun x : Int × Int × Int × Int × Int => [i6 x.1, i6 x.2.1, i6 x.2.2.1, i6 x.2.2.2.1, i6 x.2.2.2.2]) 5 (fun _ => rfl) (fun x => by simp [Value.oneCell'])) 38 d f (tallyS u0).1] S jM := f4
     refine s1 f3 6 (.slice cl (p ++ [(c, w64 ((-1) - h), (n.length : Int), o, l)]).length cm) ?_; intro mx f6
     apply fY
     refine j_ (t_ (rgB f6 f5 [] [] [(100, i6 (w64 (Q + 1)))] ?_)); intro my jN
     exact d_ ⟨⟨p ++ [(c, w64 ((-1) - h), (n.length : Int), o, l)], w64 (Q + 1), cl, cm⟩, f2.1, f2.2, (jN.reg).anyβ _ (by kernel_rfl), f5.kp⟩
    refine k_ (s_ (sqB ba aF [] [] [(17, i6 1)] ?_)); intro f7 f8
    apply b_
    have f9 : Fr 166 [] [⟨0, [], .slice ao1 u0.length cap2⟩, ⟨3, [], .slice d (tallyS u0).1.length f⟩, ⟨4, [], i6 (tallyS u0).2⟩, ⟨6, [], .slice M p.length N⟩, ⟨7, [], i6 c⟩, ⟨9, [], .bool A⟩, ⟨10, [], .map (some j)⟩, ⟨15, [], i6 h⟩, ⟨16, [], pt q 0⟩, ⟨17, [], i6 1⟩, ⟨43, [], i6 c⟩, ⟨46, [], .slice (sm O) ([false, true] : List Bool).length 2⟩, ⟨47, [], i6 2⟩, ⟨48, [], i6 H⟩, ⟨98, [], .slice u (isortS i).length y⟩, ⟨99, [], i6 ((isortS i).length : Int)⟩, ⟨100, [], i6 Q⟩] f7 := f8.reg
    obtain ⟨jP, jQ, jR, jS⟩ := jO
    refine lp (ι := Int × Int × Int) (fun s => [⟨0, [], .slice ao1 u0.length cap2⟩, ⟨3, [], .slice d (tallyS u0).1.length f⟩, ⟨4, [], i6 (tallyS u0).2⟩, ⟨6, [], .slice M p.length N⟩, ⟨7, [], i6 c⟩, ⟨9, [], .bool A⟩, ⟨10, [], .map (some j)⟩, ⟨15, [], i6 h⟩, ⟨16, [], pt q 0⟩, ⟨17, [], i6 s.1⟩, ⟨43, [], i6 c⟩, ⟨46, [], .slice (sm O) ([false, true] : List Bool).length 2⟩, ⟨47, [], i6 2⟩, ⟨48, [], i6 H⟩, ⟨98, [], .slice u (isortS i).length y⟩, ⟨99, [], i6 ((isortS i).length : Int)⟩, ⟨100, [], i6 Q⟩]) (fun s => [.row q [i6 c, i6 h, i6 (n.length : Int), i6 s.2.1, i6 s.2.2] 38, .own (tyFlat (fun x : Int × Int × Int × Int × Int => [i6 x.1, i6 x.2.1, i6 x.2.2.1, i6 x.2.2.2.1, i6 x.2.2.2.2]) 5 (fun _ => rfl) (fun x => by simp [Value.oneCell'])) 38 M N p, .own (tyFlat (fun x : Int × Int × Int × Int × Int => [i6 x.1, i6 x.2.1, i6 x.2.2.1, i6 x.2.2.2.1, i6 x.2.2.2.2]) 5 (fun _ => rfl) (fun x => by simp [Value.oneCell'])) 38 d f (tallyS u0).1]) (fun s => S) (fun s => jP s.1 s.2.1 s.2.2) (fun s => jQ s.1 s.2.1 s.2.2) ⟨1, -1, -1⟩ jR (by exact f9.reg) (by exact aF) ?_
    rintro ⟨B, o, l⟩ jT jU jV gb gc
    have ge := jS B o l jT
    refine s_ (sqH ?_); intro jW gf
    refine bt gb gc 3 [] [] [(115, i6 B), (116, .map (some j)), (117, i6 h)] ?_; intro mz gg
    refine lkG gg gc aE h (t := 30) (kt := 3) (et := 31) (nog rfl _) rfl (by kernel_rfl) rfl (by kernel_rfl) (by kernel_rfl) (MKey.int (k := .i64) (by kernel_rfl)) (by kernel_rfl) (by kernel_rfl) ?_; intro mA mB cn mC jX jY gh
    have bu := ge cn jX (jY.small)
    refine bt gh gc 2 [] [] [(120, .bool (decide (B < (cn.length : Int))))] ?_; intro jZ bd
    apply gf
    refine c_ bd bu (fun _ gj => ?_) fun _ kn => ?_
    ·
     refine k_ (s_ (b_ ?_))
     have gk : Fr 166 [] [⟨0, [], .slice ao1 u0.length cap2⟩, ⟨3, [], .slice d (tallyS u0).1.length f⟩, ⟨4, [], i6 (tallyS u0).2⟩, ⟨6, [], .slice M p.length N⟩, ⟨7, [], i6 c⟩, ⟨9, [], .bool A⟩, ⟨10, [], .map (some j)⟩, ⟨15, [], i6 h⟩, ⟨16, [], pt q 0⟩, ⟨17, [], i6 B⟩, ⟨43, [], i6 c⟩, ⟨46, [], .slice (sm O) ([false, true] : List Bool).length 2⟩, ⟨47, [], i6 2⟩, ⟨48, [], i6 H⟩, ⟨98, [], .slice u (isortS i).length y⟩, ⟨99, [], i6 ((isortS i).length : Int)⟩, ⟨100, [], i6 Q⟩] jZ := bd.reg
     refine sqQH mixed (by kernel_rfl) gc ?_; intro j0 gl
     refine q1 gk 123 (.map (some j)) ?_; intro mD gm
     refine q1 gm 124 (i6 h) ?_; intro mE gn
     refine qlkG gn (fun _ hC => hC.fz) aE h (t := 30) (kt := 3) (et := 31) (nog rfl _) rfl (by kernel_rfl) rfl (by kernel_rfl) (by kernel_rfl) (MKey.int (k := .i64) (by kernel_rfl)) (by kernel_rfl) (by kernel_rfl) ?_; intro mF mG go mH j1 gq gr
     have j2 := gj go j1 (gq.small)
     refine q1 gr 126 (i6 B) ?_; intro mI gt
     obtain ⟨j3, gu⟩ := j2
     refine qx_ gt gq B j3 .i64 3 8 ?_; intro mJ mK j4 E mL j5 j6 j7 cp
     have gv := gu E j5
     obtain rfl : j4 = ([i6 E] : List Value) := j7
     refine qz_ cp j6 0 (i6 E) rfl ?_; intro mM gw
     refine q1 gw 129 (.map (some j)) ?_; intro mN gx
     refine q1 gx 130 (i6 h) ?_; intro mO gy
     refine qlkG gy (fun _ hC => hC.fz) aE h (t := 30) (kt := 3) (et := 31) (nog rfl _) rfl (by kernel_rfl) rfl (by kernel_rfl) (by kernel_rfl) (MKey.int (k := .i64) (by kernel_rfl)) (by kernel_rfl) (by kernel_rfl) ?_; intro mP mQ gz mR j8 gA gB
     have j9 := gv gz j8 (gA.small)
     refine q1 gB 132 (i6 B) ?_; intro mS gD
     refine q1 gD 133 (i6 (w64 (B - 1))) ?_; intro mT gE
     obtain ⟨ka, gF⟩ := j9
     refine qx_ gE gA (w64 (B - 1)) ka .i64 3 8 ?_; intro mU mV kb G mW kc kd ke cq
     have bv := gF G kc
     obtain rfl : kb = ([i6 G] : List Value) := ke
     refine qz_ cq kd 0 (i6 G) rfl ?_; intro mX gG
     refine q1 gG 136 (i6 (w64 (E - G))) ?_; intro mY gH
     refine q1 gH 18 (i6 (w64 (E - G))) ?_; intro mZ gI
     refine qnl (gl _ ?_); intro m0 aH
     refine s_ (sqB gI aH [0] [] [(139, .bool (decide (o < 0)))] ?_); intro m1 be
     refine c_ be bv (fun _ gJ => ?_) fun _ gQ => ?_
     ·
      refine rgH ?_; intro kf gK
      refine bt be aH 2 [] [] [(140, i6 (w64 (E - G))), (141, pt q 3)] ?_; intro m2 cs
      refine sx cs aH 0 [i6 c, i6 h, i6 (n.length : Int), i6 (w64 (E - G)), i6 l] 3 ?_; intro kg gL
      have ct : Mem w.heap.size [] w Z [.row q [i6 c, i6 h, i6 (n.length : Int), i6 (w64 (E - G)), i6 l] 38, .own (tyFlat (fun x : Int × Int × Int × Int × Int => [i6 x.1, i6 x.2.1, i6 x.2.2.1, i6 x.2.2.2.1, i6 x.2.2.2.2]) 5 (fun _ => rfl) (fun x => by simp [Value.oneCell'])) 38 M N p, .own (tyFlat (fun x : Int × Int × Int × Int × Int => [i6 x.1, i6 x.2.1, i6 x.2.2.1, i6 x.2.2.2.1, i6 x.2.2.2.2]) 5 (fun _ => rfl) (fun x => by simp [Value.oneCell'])) 38 d f (tallyS u0).1] S kg := gL
      apply gK
      refine t_ (rgH ?_); intro kh gM
      refine bt cs ct 9 [0, 0] [] [(145, i6 (min (w64 (E - G)) (w64 (E - G)))), (149, i6 (max l (w64 (E - G)))), (150, pt q 3)] ?_; intro m3 cu
      refine sx cu ct 0 [i6 c, i6 h, i6 (n.length : Int), i6 (min (w64 (E - G)) (w64 (E - G))), i6 l] 3 ?_; intro m4 gN
      refine s1 cu 151 (pt q 4) ?_; intro m5 cv
      refine sx cv gN 0 [i6 c, i6 h, i6 (n.length : Int), i6 (min (w64 (E - G)) (w64 (E - G))), i6 (max l (w64 (E - G)))] 4 ?_; intro ki gO
      have gP : Mem w.heap.size [] w Z [.row q [i6 c, i6 h, i6 (n.length : Int), i6 (min (w64 (E - G)) (w64 (E - G))), i6 (max l (w64 (E - G)))] 38, .own (tyFlat (fun x : Int × Int × Int × Int × Int => [i6 x.1, i6 x.2.1, i6 x.2.2.1, i6 x.2.2.2.1, i6 x.2.2.2.2]) 5 (fun _ => rfl) (fun x => by simp [Value.oneCell'])) 38 M N p, .own (tyFlat (fun x : Int × Int × Int × Int × Int => [i6 x.1, i6 x.2.1, i6 x.2.2.1, i6 x.2.2.2.1, i6 x.2.2.2.2]) 5 (fun _ => rfl) (fun x => by simp [Value.oneCell'])) 38 d f (tallyS u0).1] S ki := gO
      apply gM
      refine j_ (t_ (rgB cv gP [] [] [(17, i6 (w64 (B + 1)))] ?_)); intro m6 kj
      exact d_ ⟨⟨w64 (B + 1), min (w64 (E - G)) (w64 (E - G)), max l (w64 (E - G))⟩, gJ.1, gJ.2, (kj.reg).anyβ _ (by kernel_rfl), gP.kp⟩
     refine k_ (rgH ?_); intro kk gR
     refine bt be aH 9 [0, 0] [] [(145, i6 (min o (w64 (E - G)))), (149, i6 (max l (w64 (E - G)))), (150, pt q 3)] ?_; intro m7 cw
     refine sx cw aH 0 [i6 c, i6 h, i6 (n.length : Int), i6 (min o (w64 (E - G))), i6 l] 3 ?_; intro m8 gS
     refine s1 cw 151 (pt q 4) ?_; intro m9 cx
     refine sx cx gS 0 [i6 c, i6 h, i6 (n.length : Int), i6 (min o (w64 (E - G))), i6 (max l (w64 (E - G)))] 4 ?_; intro kl gT
     have gU : Mem w.heap.size [] w Z [.row q [i6 c, i6 h, i6 (n.length : Int), i6 (min o (w64 (E - G))), i6 (max l (w64 (E - G)))] 38, .own (tyFlat (fun x : Int × Int × Int × Int × Int => [i6 x.1, i6 x.2.1, i6 x.2.2.1, i6 x.2.2.2.1, i6 x.2.2.2.2]) 5 (fun _ => rfl) (fun x => by simp [Value.oneCell'])) 38 M N p, .own (tyFlat (fun x : Int × Int × Int × Int × Int => [i6 x.1, i6 x.2.1, i6 x.2.2.1, i6 x.2.2.2.1, i6 x.2.2.2.2]) 5 (fun _ => rfl) (fun x => by simp [Value.oneCell'])) 38 d f (tallyS u0).1] S kl := gT
     apply gR
     refine j_ (t_ (rgB cx gU [] [] [(17, i6 (w64 (B + 1)))] ?_)); intro na km
     exact d_ ⟨⟨w64 (B + 1), min o (w64 (E - G)), max l (w64 (E - G))⟩, gQ.1, gQ.2, (km.reg).anyβ _ (by kernel_rfl), gU.kp⟩
    refine x_ (y_ (y_ (z_ (t_ (rgH ?_))))); intro ko gV
    refine bt bd gc 2 [0] [] [(152, .slice M p.length N), (153, .agg #[i6 c, i6 h, i6 (n.length : Int), i6 o, i6 l])] ?_; intro nb gW
    refine nw gW gc (fun b => .slice (sm b) 1 1) [i6 c, i6 h, i6 (n.length : Int), i6 o, i6 l] 38 ?_; intro gX nc nd gY cy
    obtain ⟨kp, gZ⟩ := kn
    refine ap gY cy 2 (T := (tyFlat (fun x : Int × Int × Int × Int × Int => [i6 x.1, i6 x.2.1, i6 x.2.2.1, i6 x.2.2.2.1, i6 x.2.2.2.2]) 5 (fun _ => rfl) (fun x => by simp [Value.oneCell']))) (xs := p) (ys := [(c, h, (n.length : Int), o, l)]) (ao := M) (cap := N) (ao2 := (sm gX)) (cap2 := 1) (t := 23) (e := 38) (bytes := 40) (nog rfl _) rfl (by kernel_rfl) rfl (by kernel_rfl) (by kernel_rfl) (by kernel_rfl) rfl (Src.row cy 0 rfl (RepAll.one (T := (tyFlat (fun x : Int × Int × Int × Int × Int => [i6 x.1, i6 x.2.1, i6 x.2.2.1, i6 x.2.2.2.1, i6 x.2.2.2.2]) 5 (fun _ => rfl) (fun x => by simp [Value.oneCell']))) (x := (c, h, (n.length : Int), o, l)) rfl)) kp ?_; intro cz cA ne kq nf g0 g1
    have g2 : Mem w.heap.size [] w Z [.row gX [i6 c, i6 h, i6 (n.length : Int), i6 o, i6 l] 38, .row q [i6 c, i6 h, i6 (n.length : Int), i6 o, i6 l] 38, .own (tyFlat (fun x : Int × Int × Int × Int × Int => [i6 x.1, i6 x.2.1, i6 x.2.2.1, i6 x.2.2.2.1, i6 x.2.2.2.2]) 5 (fun _ => rfl) (fun x => by simp [Value.oneCell'])) 38 cz cA (p ++ [(c, h, (n.length : Int), o, l)]), .own (tyFlat (fun x : Int × Int × Int × Int × Int => [i6 x.1, i6 x.2.1, i6 x.2.2.1, i6 x.2.2.2.1, i6 x.2.2.2.2]) 5 (fun _ => rfl) (fun x => by simp [Value.oneCell'])) 38 d f (tallyS u0).1] S kq := g1
    refine s1 g0 6 (.slice cz (p ++ [(c, h, (n.length : Int), o, l)]).length cA) ?_; intro ng g3
    apply gV
    refine j_ (t_ (rgB g3 g2 [] [] [(100, i6 (w64 (Q + 1)))] ?_)); intro nh kr
    exact d_ ⟨⟨p ++ [(c, h, (n.length : Int), o, l)], w64 (Q + 1), cz, cA⟩, gZ.1, gZ.2, (kr.reg).anyβ _ (by kernel_rfl), g2.kp⟩
   refine x_ (y_ (y_ (z_ (j_ (t_ (rgB a8 eR [] [] [(48, i6 (w64 (H + 1)))] ?_)))))); intro ni ks
   exact d_ ⟨⟨p, w64 (H + 1), M, N, S⟩, ⟨g4.1, W⟩, g4.2, (ks.reg).anyβ _ (by kernel_rfl), eR.kp⟩
  refine x_ (y_ (y_ (z_ (j_ (t_ (rgB aV dh [] [] [(43, i6 (w64 (c + 1)))] ?_)))))); intro nj ku
  exact d_ ⟨⟨z, w64 (c + 1), I, J, V⟩, ⟨g5.1, aA⟩, g5.2, (ku.reg).anyβ _ (by kernel_rfl), dh.kp⟩
 refine x_ (y_ (y_ (z_ (t_ (sqH ?_))))); intro kw g6
 refine s1 aU 159 (i6 (tallyS u0).2) ?_; intro nk g7
 refine s1 g7 160 (.bool ((tallyS u0).2 == 0)) ?_; intro nm g8
 refine s1 g8 161 (.bool ((tallyS u0).2 == 0)) ?_; intro nn g9
 have ha := g9.atom (((tallyS u0).2 == 0) == true) (by kernel_rfl)
 refine gp ha 162 0 [] ((tallyS u0).2 == 0) (.slice d (tallyS u0).1.length f) rfl rfl ?_; intro no hb
 refine gp hb 163 0 [] ((tallyS u0).2 == 0) (.slice ac R.length ad) rfl rfl ?_; intro np hc
 obtain ⟨kx, aP, hd, cB⟩ := c4.freeze 1 rfl
 have ky : Mem w.heap.size [] w Z [.own (tyFlat (fun x : Int × Int × Int × Int × Int => [i6 x.1, i6 x.2.1, i6 x.2.2.1, i6 x.2.2.2.1, i6 x.2.2.2.2]) 5 (fun _ => rfl) (fun x => by simp [Value.oneCell'])) 38 ac ad R] kx bz := hd
 obtain ⟨kz, aI, he, kA⟩ := ky.freeze 0 rfl
 replace cB := cB.mono aI
 have cC : Mem w.heap.size [] w Z [] kz bz := he
 refine gcl hc cC (.bool (teqS (tallyS u0).1 R)) 10 #[.slice d (tallyS u0).1.length f, .slice ac R.length ad] (m := 0) (cj := []) (bj := (tallyS u0).2 == 0) rfl rfl (by kernel_rfl) rfl (by kernel_rfl) (by kernel_rfl) (by kernel_rfl) (fun _ => by kernel_rfl) (fun hg => teq_fun (tallyS u0).1 R d f ac ad _ _ cB kA cC.fz) ?_; intro nq nr cD kB
 refine u_ cD (.bool (((tallyS u0).2 == 0) && (teqS (tallyS u0).1 R))) (pk_and cD (g := []) (m := 0) (b := (tallyS u0).2 == 0) (v := (teqS (tallyS u0).1 R)) rfl (by kernel_rfl) (by kernel_rfl) (by kernel_rfl) rfl) ?_; intro ns hf
 refine s1 hf 2 (.bool (((tallyS u0).2 == 0) && (teqS (tallyS u0).1 R))) ?_; intro nt kC
 apply g6
 exact r_ (ra1 kC (.bool (((tallyS u0).2 == 0) && (teqS (tallyS u0).1 R))) ⟨((tallyS u0).2 == 0) && (teqS (tallyS u0).1 R), rfl, kv, kB.below⟩)

end Go.Proofs.YtdenmllkjdijlaaGreatDoor
