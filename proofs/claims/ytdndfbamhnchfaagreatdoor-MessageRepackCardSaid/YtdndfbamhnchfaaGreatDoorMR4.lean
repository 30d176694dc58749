/- Texts put together (pure ones, or walks made by program). -/
import Derived.Test.YtdndfbamhnchfaaGreatDoorMR0
import Derived.Test.YtdndfbamhnchfaaGreatDoorMR1
import Derived.Test.YtdndfbamhnchfaaGreatDoorMR2
import Derived.Test.YtdndfbamhnchfaaGreatDoorMR3
import Derived.Shelf.Lay
import Derived.Ground.NamesProg
import Derived.Shelf.Strings.SlTrimAscii
set_option linter.unusedVariables false
set_option linter.unusedSimpArgs false
set_option linter.defProp false
set_option maxRecDepth 100000
set_option maxHeartbeats 0
namespace Go.Proofs.YtdndfbamhnchfaaGreatDoor
open Go.Sy Go.RowKit
abbrev e27Mf (X : Frame) (A0 : Option Addr) (C0 : Nat) : List Value := [i6 X.ID, .bool X.Long, .bool X.Fast, .bool X.Remote, i6 X.Size, .slice A0 X.Data.length C0]
def req_fun (u0 : List Reading) (u1 : List Reading) (ao1 : Option Addr) (cap2 : Nat) (ao4 : Option Addr) (cap5 : Nat) (Z : Fz) (w : World) (hs3 : SlR tyReading Z ao1 cap2 u0) (hs6 : SlR tyReading Z ao4 cap5 u1) (hZ : Z.on w) := f_ (req_walk u0 u1 ao1 cap2 ao4 cap5 Z w hs3 hs6 hZ (req_ok u0 u1))
theorem meant_walk   (Z : Fz) (w : World)  (hZ : Z.on w) {K : Bool → Prop} (hp : meant_vc  K) : Calls Tryz.prog 9 #[] w fun e w' => ∃ r : Bool, e = .returned (.bool r) ∧ K r ∧ Below w.heap.size w w' := by
 refine enter0 Tryz.func9 rfl rfl (by kernel_rfl) ?_; intro a0 ad; have C := Mem.start w Z hZ
 refine sqB ad C [] [] [] ?_; intro a2 ae
 refine sqH ?_; intro a4 af
 refine ck ae 31 #[] ?_
 refine (engine_fun  _ _ C.fz).mono ?_; rintro _ a5 ⟨ag, ah, ai, rfl, f, hm⟩; refine ⟨_, rfl, ?_⟩; intro a6 aj; have ak := C.callZ hm
 have al : Mem w.heap.size [] w Z [] ai a5 := ak
 have a8 := hp (f.small)
 refine nw aj al (fun b => .slice (sm b) 2 2) [y8 1, y8 7] 5 ?_; intro D bv am an ao
 refine s1 an 8 (.agg #[i6 100, .bool false, .bool false, .bool false, i6 0, .slice (sm D) 2 2]) ?_; intro bw ap
 have a9 : Mem w.heap.size [] w Z [.own t8 5 (sm D) 2 ([1, 7] : List Int)] ai am := ao.rowOwn (T := t8) (xs := ([1, 7] : List Int)) 0 rfl (by decide) (by show 2 ≤ lim; decide) ((RepAll.one (T := t8) (x := 1) rfl).append (RepAll.one (T := t8) (x := 7) rfl))
 obtain ⟨ba, aq, ar, g⟩ := a9.freeze 0 rfl
 replace f := f.mono aq
 have J : Mem w.heap.size [] w Z [] ba am := ar
 obtain ⟨bb, au⟩ := a8
 refine ck ap 6 #[.agg #[i6 engine.ID, .bool engine.Long, str engine.Name, i6 engine.Size, i6 engine.Chooser, .slice ag engine.Signals.length ah], .agg #[i6 100, .bool false, .bool false, .bool false, i6 0, .slice (sm D) ([1, 7] : List Int).length 2]] ?_
 refine (mread_fun engine (⟨100, false, false, false, 0, ([1, 7] : List Int)⟩ : Frame) bb ag ah (sm D) 2 _ _ f g J.fz).mono ?_; rintro _ bc ⟨k, l, bd, rfl, hm⟩; refine ⟨_, rfl, ?_⟩; intro bx av; have aw := J.callZ hm
 have u : Mem w.heap.size [] w Z [.own tyReading 37 k l (readS engine (⟨100, false, false, false, 0, ([1, 7] : List Int)⟩ : Frame)).1] bd bc := aw
 have ax := au (u.ownSmall 0 rfl)
 refine bt av u 5 [] [] [(1, .slice k (readS engine (⟨100, false, false, false, 0, ([1, 7] : List Int)⟩ : Frame)).1.length l), (2, i6 (readS engine (⟨100, false, false, false, 0, ([1, 7] : List Int)⟩ : Frame)).2)] ?_; intro bz ay
 apply af
 refine sqH ?_; intro be az
 refine ck ay 31 #[] ?_
 refine (engine_fun  _ _ u.fz).mono ?_; rintro _ aA ⟨aB, aC, bf, rfl, h, hm⟩; refine ⟨_, rfl, ?_⟩; intro bA aD; have aE := u.callZ hm
 have bg : Mem w.heap.size [] w Z [.own tyReading 37 k l (readS engine (⟨100, false, false, false, 0, ([1, 7] : List Int)⟩ : Frame)).1] bf aA := aE
 have aF := ax (h.small)
 refine s1 aD 14 (.slice k (readS engine (⟨100, false, false, false, 0, ([1, 7] : List Int)⟩ : Frame)).1.length l) ?_; intro bB aG
 obtain ⟨bh, E, aH, m⟩ := bg.freeze 0 rfl
 replace h := h.mono E
 have N : Mem w.heap.size [] w Z [] bh aA := aH
 refine ck aG 12 #[.agg #[i6 engine.ID, .bool engine.Long, str engine.Name, i6 engine.Size, i6 engine.Chooser, .slice aB engine.Signals.length aC], .slice k (readS engine (⟨100, false, false, false, 0, ([1, 7] : List Int)⟩ : Frame)).1.length l] ?_
 refine (mwrite_fun engine (readS engine (⟨100, false, false, false, 0, ([1, 7] : List Int)⟩ : Frame)).1 aB aC k l _ _ h m N.fz).mono ?_; rintro _ bi ⟨i, j, O, rfl, o, hm⟩; refine ⟨_, rfl, ?_⟩; intro bC aI; have aJ := N.callZ hm; have y := hm.ext.le
 replace m := m.mono y
 have P : Mem w.heap.size [] w Z [] O bi := aJ
 have F := aF (o.small)
 refine bt aI P 3 [] [] [(16, .agg (e27Mf ((writeS engine (readS engine (⟨100, false, false, false, 0, ([1, 7] : List Int)⟩ : Frame)).1).1) i j).toArray), (17, i6 (writeS engine (readS engine (⟨100, false, false, false, 0, ([1, 7] : List Int)⟩ : Frame)).1).2)] ?_; intro bD aK
 refine nw aK P pb [i6 0, .bool false, .bool false, .bool false, i6 0, .slice none 0 0] 27 ?_; intro z bE bF Q aL
 refine sx Q aL 0 (e27Mf ((writeS engine (readS engine (⟨100, false, false, false, 0, ([1, 7] : List Int)⟩ : Frame)).1).1) i j) 0 ?_; intro bj aM
 refine s1 Q 4 (i6 (writeS engine (readS engine (⟨100, false, false, false, 0, ([1, 7] : List Int)⟩ : Frame)).1).2) ?_; intro bG aN
 have p : Mem w.heap.size [] w Z [.row z (e27Mf ((writeS engine (readS engine (⟨100, false, false, false, 0, ([1, 7] : List Int)⟩ : Frame)).1).1) i j) 27] O bj := aM
 apply az
 refine sqH ?_; intro R q
 refine bt aN p 7 [] [] [(24, .bool (((readS engine (⟨100, false, false, false, 0, ([1, 7] : List Int)⟩ : Frame)).2 == 0) && ((writeS engine (readS engine (⟨100, false, false, false, 0, ([1, 7] : List Int)⟩ : Frame)).1).2 == 0)))] ?_; intro bH G
 rcases Bool.eq_false_or_eq_true (((readS engine (⟨100, false, false, false, 0, ([1, 7] : List Int)⟩ : Frame)).2 == 0) && ((writeS engine (readS engine (⟨100, false, false, false, 0, ([1, 7] : List Int)⟩ : Frame)).1).2 == 0)) with A | A
 · -- true
  have H := F.1 A
  have aO := G.reval (d := 24) (c := []) (v := .bool (((readS engine (⟨100, false, false, false, 0, ([1, 7] : List Int)⟩ : Frame)).2 == 0) && ((writeS engine (readS engine (⟨100, false, false, false, 0, ([1, 7] : List Int)⟩ : Frame)).1).2 == 0))) (by kernel_rfl) (.bool true) (by rw [A])
  refine bt aO p 3 [] [25, 26, 27] [(25, .slice k (readS engine (⟨100, false, false, false, 0, ([1, 7] : List Int)⟩ : Frame)).1.length l), (26, .agg #[str ([119, 104, 105, 99, 104] : List UInt8), i6 1, i6 1]), (27, .agg #[str ([108, 111, 97, 100] : List UInt8), i6 7, i6 1])] ?_; intro bI S
  refine sn S p (fun b => .slice (sm b) 2 2) [str ([119, 104, 105, 99, 104] : List UInt8), i6 1, i6 1, str ([108, 111, 97, 100] : List UInt8), i6 7, i6 1] 37 (wK S true) rfl (by kernel_rfl) (by kernel_rfl) ?_; intro U bJ aP V aQ
  have bk : Mem w.heap.size [] w Z [.own tyReading 37 (sm U) 2 ([(⟨([119, 104, 105, 99, 104] : List UInt8), 1, 1⟩ : Reading), (⟨([108, 111, 97, 100] : List UInt8), 7, 1⟩ : Reading)] : List Reading), .row z (e27Mf ((writeS engine (readS engine (⟨100, false, false, false, 0, ([1, 7] : List Int)⟩ : Frame)).1).1) i j) 27] O aP := aQ.rowOwn (T := tyReading) (xs := ([(⟨([119, 104, 105, 99, 104] : List UInt8), 1, 1⟩ : Reading), (⟨([108, 111, 97, 100] : List UInt8), 7, 1⟩ : Reading)] : List Reading)) 0 rfl (by decide) (by show 2 ≤ lim; decide) ((RepAll.one (T := tyReading) (x := (⟨([119, 104, 105, 99, 104] : List UInt8), 1, 1⟩ : Reading)) rfl).append (RepAll.one (T := tyReading) (x := (⟨([108, 111, 97, 100] : List UInt8), 7, 1⟩ : Reading)) rfl))
  obtain ⟨aR, s, aS, W⟩ := bk.freeze 0 rfl
  replace m := m.mono s
  replace o := o.mono s
  have X : Mem w.heap.size [] w Z [.row z (e27Mf ((writeS engine (readS engine (⟨100, false, false, false, 0, ([1, 7] : List Int)⟩ : Frame)).1).1) i j) 27] aR aP := aS
  refine fcl V X (.bool (reqS (readS engine (⟨100, false, false, false, 0, ([1, 7] : List Int)⟩ : Frame)).1 ([(⟨([119, 104, 105, 99, 104] : List UInt8), 1, 1⟩ : Reading), (⟨([108, 111, 97, 100] : List UInt8), 7, 1⟩ : Reading)] : List Reading))) 11 #[.slice k (readS engine (⟨100, false, false, false, 0, ([1, 7] : List Int)⟩ : Frame)).1.length l, .slice (sm U) ([(⟨([119, 104, 105, 99, 104] : List UInt8), 1, 1⟩ : Reading), (⟨([108, 111, 97, 100] : List UInt8), 7, 1⟩ : Reading)] : List Reading).length 2] (wK V true) rfl (by kernel_rfl) (fun _ => by kernel_rfl) (req_fun (readS engine (⟨100, false, false, false, 0, ([1, 7] : List Int)⟩ : Frame)).1 ([(⟨([119, 104, 105, 99, 104] : List UInt8), 1, 1⟩ : Reading), (⟨([108, 111, 97, 100] : List UInt8), 7, 1⟩ : Reading)] : List Reading) k l (sm U) 2 _ _ m W X.fz) ?_; intro bK bL aT t
  refine bt aT t 2 [] [30] [(31, .bool (reqS (readS engine (⟨100, false, false, false, 0, ([1, 7] : List Int)⟩ : Frame)).1 ([(⟨([119, 104, 105, 99, 104] : List UInt8), 1, 1⟩ : Reading), (⟨([108, 111, 97, 100] : List UInt8), 7, 1⟩ : Reading)] : List Reading)))] ?_; intro bM I
  rcases Bool.eq_false_or_eq_true ((reqS (readS engine (⟨100, false, false, false, 0, ([1, 7] : List Int)⟩ : Frame)).1 ([(⟨([119, 104, 105, 99, 104] : List UInt8), 1, 1⟩ : Reading), (⟨([108, 111, 97, 100] : List UInt8), 7, 1⟩ : Reading)] : List Reading))) with B | B
  · -- true
   have bl := H.1 B
   have aU := I.reval (d := 31) (c := []) (v := .bool (reqS (readS engine (⟨100, false, false, false, 0, ([1, 7] : List Int)⟩ : Frame)).1 ([(⟨([119, 104, 105, 99, 104] : List UInt8), 1, 1⟩ : Reading), (⟨([108, 111, 97, 100] : List UInt8), 7, 1⟩ : Reading)] : List Reading))) (by kernel_rfl) (.bool true) (by rw [B])
   refine bt aU t 2 [0] [32, 33] [(33, .slice i (writeS engine (readS engine (⟨100, false, false, false, 0, ([1, 7] : List Int)⟩ : Frame)).1).1.Data.length j)] ?_; intro bN Y
   refine sn Y t (fun b => .slice (sm b) 2 2) [y8 1, y8 7] 5 (wK Y true) rfl (by kernel_rfl) (by kernel_rfl) ?_; intro aa bO aV ab aW
   have bm : Mem w.heap.size [] w Z [.own t8 5 (sm aa) 2 ([1, 7] : List Int), .row z (e27Mf ((writeS engine (readS engine (⟨100, false, false, false, 0, ([1, 7] : List Int)⟩ : Frame)).1).1) i j) 27] aR aV := aW.rowOwn (T := t8) (xs := ([1, 7] : List Int)) 0 rfl (by decide) (by show 2 ≤ lim; decide) ((RepAll.one (T := t8) (x := 1) rfl).append (RepAll.one (T := t8) (x := 7) rfl))
   obtain ⟨bn, n, aX, bo⟩ := bm.freeze 0 rfl
   replace o := o.mono n
   have ac : Mem w.heap.size [] w Z [.row z (e27Mf ((writeS engine (readS engine (⟨100, false, false, false, 0, ([1, 7] : List Int)⟩ : Frame)).1).1) i j) 27] bn aV := aX
   refine fcl ab ac (.bool (beqS (writeS engine (readS engine (⟨100, false, false, false, 0, ([1, 7] : List Int)⟩ : Frame)).1).1.Data ([1, 7] : List Int))) 32 #[.slice i (writeS engine (readS engine (⟨100, false, false, false, 0, ([1, 7] : List Int)⟩ : Frame)).1).1.Data.length j, .slice (sm aa) ([1, 7] : List Int).length 2] (wK ab true) rfl (by kernel_rfl) (fun _ => by kernel_rfl) (beq_fun (writeS engine (readS engine (⟨100, false, false, false, 0, ([1, 7] : List Int)⟩ : Frame)).1).1.Data ([1, 7] : List Int) i j (sm aa) 2 _ _ o bo ac.fz) ?_; intro bP bQ aY aZ
   refine bt aY aZ 2 [] [36] [(0, .bool (beqS (writeS engine (readS engine (⟨100, false, false, false, 0, ([1, 7] : List Int)⟩ : Frame)).1).1.Data ([1, 7] : List Int)))] ?_; intro bR bp
   apply q
   exact r_ (ra1 bp (.bool (beqS (writeS engine (readS engine (⟨100, false, false, false, 0, ([1, 7] : List Int)⟩ : Frame)).1).1.Data ([1, 7] : List Int))) ⟨(beqS (writeS engine (readS engine (⟨100, false, false, false, 0, ([1, 7] : List Int)⟩ : Frame)).1).1.Data ([1, 7] : List Int)), rfl, bl, aZ.below⟩)
  · -- false
   have bq := H.2 B
   have a1 := I.reval (d := 31) (c := []) (v := .bool (reqS (readS engine (⟨100, false, false, false, 0, ([1, 7] : List Int)⟩ : Frame)).1 ([(⟨([119, 104, 105, 99, 104] : List UInt8), 1, 1⟩ : Reading), (⟨([108, 111, 97, 100] : List UInt8), 7, 1⟩ : Reading)] : List Reading))) (by kernel_rfl) (.bool false) (by rw [B])
   refine bt a1 t 6 [] [32, 33, 34, 35, 36] [(0, .bool false)] ?_; intro bS br
   apply q
   exact r_ (ra1 br (.bool false) ⟨false, rfl, bq, t.below⟩)
 · -- false
  have bs := F.2 A
  have a3 := G.reval (d := 24) (c := []) (v := .bool (((readS engine (⟨100, false, false, false, 0, ([1, 7] : List Int)⟩ : Frame)).2 == 0) && ((writeS engine (readS engine (⟨100, false, false, false, 0, ([1, 7] : List Int)⟩ : Frame)).1).2 == 0))) (by kernel_rfl) (.bool false) (by rw [A])
  refine bt a3 p 13 [] [25, 26, 27, 28, 29, 30, 32, 33, 34, 35, 36] [(0, .bool false)] ?_; intro bT bu
  apply q
  exact r_ (ra1 bu (.bool false) ⟨false, rfl, bs, p.below⟩)
end Go.Proofs.YtdndfbamhnchfaaGreatDoor
namespace Go.Proofs
open Go.Shelf
def Tryz.lays160_ren : Go.Shelf.Ren := ⟨fun | 160 => 63 | 232 => 92 | 231 => 91 | 227 => 93 | 234 => 95 | 233 => 94 | 236 => 97 | 235 => 96 | 228 => 109 | 271 => 112 | 151 => 111 | 197 => 110 | 120 => 128 | 152 => 127 | 260 => 126 | 137 => 137 | 119 => 138 | 224 => 139 | 225 => 140 | 217 => 142 | 266 => 143 | n => n, fun | 9 => 9 | 4 => 4 | 3 => 3 | 5 => 5 | 117 => 115 | 116 => 114 | 0 => 0 | 124 => 118 | 21 => 21 | 105 => 127 | 46 => 82 | 119 => 153 | 139 => 156 | 138 => 155 | n => n, fun | 3 => 0 | 4 => 1 | n => n⟩
theorem Tryz.lays160 : Go.Proofs.Lays.n160 Tryz.prog Tryz.lays160_ren := {
  mixed := by kernel_rfl
  f119 := Tryz.func138.trans (congrArg some (by kernel_rfl))
  f120 := Tryz.func128.trans (congrArg some (by kernel_rfl))
  f137 := Tryz.func137.trans (congrArg some (by kernel_rfl))
  f151 := Tryz.func111.trans (congrArg some (by kernel_rfl))
  f152 := Tryz.func127.trans (congrArg some (by kernel_rfl))
  f160 := Tryz.func63.trans (congrArg some (by kernel_rfl))
  f197 := Tryz.func110.trans (congrArg some (by kernel_rfl))
  f217 := Tryz.func142.trans (congrArg some (by kernel_rfl))
  f224 := Tryz.func139.trans (congrArg some (by kernel_rfl))
  f225 := Tryz.func140.trans (congrArg some (by kernel_rfl))
  f227 := Tryz.func93.trans (congrArg some (by kernel_rfl))
  f228 := Tryz.func109.trans (congrArg some (by kernel_rfl))
  f231 := Tryz.func91.trans (congrArg some (by kernel_rfl))
  f232 := Tryz.func92.trans (congrArg some (by kernel_rfl))
  f233 := Tryz.func94.trans (congrArg some (by kernel_rfl))
  f234 := Tryz.func95.trans (congrArg some (by kernel_rfl))
  f235 := Tryz.func96.trans (congrArg some (by kernel_rfl))
  f236 := Tryz.func97.trans (congrArg some (by kernel_rfl))
  f260 := Tryz.func126.trans (congrArg some (by kernel_rfl))
  f266 := Tryz.func143.trans (congrArg some (by kernel_rfl))
  f271 := Tryz.func112.trans (congrArg some (by kernel_rfl))
  t0 := Tryz.underlying0
  a0 := Tryz.isAgg0
  z0 := Tryz.sizeOf0
  v0 := Tryz.zeroValue0
  t3 := Tryz.underlying3
  a3 := Tryz.isAgg3
  z3 := Tryz.sizeOf3
  v3 := Tryz.zeroValue3
  t4 := Tryz.underlying4
  a4 := Tryz.isAgg4
  z4 := Tryz.sizeOf4
  v4 := Tryz.zeroValue4
  t5 := Tryz.underlying5
  a5 := Tryz.isAgg5
  z5 := Tryz.sizeOf5
  v5 := Tryz.zeroValue5
  t9 := Tryz.underlying9
  a9 := Tryz.isAgg9
  z9 := Tryz.sizeOf9
  v9 := Tryz.zeroValue9
  t21 := Tryz.underlying21
  a21 := Tryz.isAgg21
  z21 := Tryz.sizeOf21
  v21 := Tryz.zeroValue21
  t46 := Tryz.underlying82
  a46 := Tryz.isAgg82
  z46 := Tryz.sizeOf82
  v46 := Tryz.zeroValue82
  t105 := Tryz.underlying127
  a105 := Tryz.isAgg127
  z105 := Tryz.sizeOf127
  v105 := Tryz.zeroValue127
  t116 := Tryz.underlying114
  a116 := Tryz.isAgg114
  z116 := Tryz.sizeOf114
  t117 := Tryz.underlying115
  a117 := Tryz.isAgg115
  z117 := Tryz.sizeOf115
  v117 := Tryz.zeroValue115
  t119 := Tryz.underlying153
  a119 := Tryz.isAgg153
  z119 := Tryz.sizeOf153
  t124 := Tryz.underlying118
  a124 := Tryz.isAgg118
  z124 := Tryz.sizeOf118
  v124 := Tryz.zeroValue118
  t138 := Tryz.underlying155
  a138 := Tryz.isAgg155
  z138 := Tryz.sizeOf155
  v138 := Tryz.zeroValue155
  t139 := Tryz.underlying156
  a139 := Tryz.isAgg156
  z139 := Tryz.sizeOf156
  v139 := Tryz.zeroValue156
  g3 := by kernel_rfl
  g4 := by kernel_rfl }
end Go.Proofs
set_option linter.unusedVariables false
set_option linter.unusedSimpArgs false
set_option linter.defProp false
set_option maxRecDepth 100000
set_option maxHeartbeats 0
namespace Go.Proofs.YtdndfbamhnchfaaGreatDoor
open Go.Sy Go.RowKit
abbrev e46P (X : Signal) : List Value := [str X.Name, i6 X.Start, i6 X.Size, .bool X.Back, .bool X.Signed, i6 X.Mul, i6 X.Div, i6 X.Add, i6 X.Key]
theorem iidxf_walk (u0 : List Int) (u1 : Int → Bool) (ao1 : Option Addr) (cap2 : Nat) (fid4 : Nat) (caps5 : Array Value) (Z : Fz) (w : World) (hs3 : SlR t6 Z ao1 cap2 u0) (hf6 : ∀ (Z1 : Fz) (w1 : World), Z.le Z1 → Z1.on w1 → ∀ (x0 : Int), Calls Tryz.prog fid4 (#[i6 x0] ++ caps5) w1 fun e w2 => e = .returned (.bool (u1 x0)) ∧ Below w1.heap.size w1 w2) (hg7 : ∀ x w, Sem.run Tryz.prog (callFunc fid4 x) w = .ok (.enter fid4 x) w) (hZ : Z.on w) {K : Int → Prop} (hp : iidxf_vc u0 u1 K) : Calls Tryz.prog 98 #[.slice ao1 u0.length cap2, .func (.func fid4) #[] caps5] w fun e w' => ∃ r : Int, e = .returned (i6 r) ∧ K r ∧ Below w.heap.size w w' := by
 refine enter0 Tryz.func98 rfl rfl (by kernel_rfl) ?_; intro a0 n; have g := Mem.start w Z hZ; have I := Fz.le.refl Z
 have J := hp (hs3.small)
 refine sqB n g [] [] [] ?_; intro ah o
 refine s_ (sqB o g [] [] [(7, i6 (u0.length : Int)), (8, i6 0)] ?_); intro p q
 apply b_
 have u : Fr 19 [] [⟨0, [], .slice ao1 u0.length cap2⟩, ⟨1, [], .func (.func fid4) #[] caps5⟩, ⟨7, [], i6 (u0.length : Int)⟩, ⟨8, [], i6 0⟩] p := q.reg
 obtain ⟨L, M, N, O⟩ := J
 refine lp (ι := Int) (fun s => [⟨0, [], .slice ao1 u0.length cap2⟩, ⟨1, [], .func (.func fid4) #[] caps5⟩, ⟨7, [], i6 (u0.length : Int)⟩, ⟨8, [], i6 s⟩]) (fun s => []) (fun s => Z) (fun s => L s) (fun s => M s) 0 N (by exact u.region (by kernel_rfl) (by kernel_rfl)) (by exact g) ?_
 rintro a P Q R y z
 have h := O a P
 refine sqB y z [] [] [(9, .bool (decide (a < (u0.length : Int))))] ?_; intro ai d
 apply s_
 refine cd d (t := decide (a < (u0.length : Int))) (by kernel_rfl) (fun l => ?_) (fun l => ?_)
 · -- yes
  have S := h.1 l
  refine k_ (s_ (b_ (sqB d z [] [] [(5, i6 a)] ?_))); intro aj B
  refine sqH ?_; intro U C
  refine bt B z 3 [] [] [(11, .func (.func fid4) #[] caps5), (12, .slice ao1 u0.length cap2), (13, i6 a)] ?_; intro ak D
  obtain ⟨V, E⟩ := S
  refine ix_ D hs3 a V .i64 3 8 ?_; intro al am W c an X Y aa F
  have i := E c X
  obtain rfl : W = ([i6 c] : List Value) := aa
  refine z1 F z 15 Y 0 (i6 c) rfl ?_; intro ao G
  have ab := hf6 _ _ I z.fz c
  refine fcl G z (.bool (u1 c)) fid4 (#[i6 c] ++ caps5) (nog rfl _) rfl (by kernel_rfl) ?h1 ?h2 ?_
  case h1 => exact fv_run rfl (by kernel_rfl) (by kernel_rfl) hg7
  case h2 => exact ab
  intro ap aq f j
  apply C
  refine cd f (t := (u1 c)) (by kernel_rfl) (fun m => ?_) (fun m => ?_)
  · -- yes
   have ac := i.1 m
   refine sqB f j [] [] [(4, i6 a)] ?_; intro ar ad
   exact r_ (i_ (h_ (h_ (i_ (h_ (ra1 ad (i6 a) ⟨a, rfl, ac, j.below⟩))))))
  · -- no
   have H := i.2 m
   refine l_ (j_ (t_ (rgB f j [] [] [(8, i6 (w64 (a + 1)))] ?_))); intro au ae
   exact d_ ⟨w64 (a + 1), H.1, H.2, (ae.region (by kernel_rfl) (by kernel_rfl)).anyβ _ (by kernel_rfl), j.kp⟩
 · -- no
  have af := h.2 l
  refine x_ (y_ (y_ (z_ (t_ (sqB d z [] [] [(4, i6 (-1))] ?_))))); intro av ag
  exact r_ (ra1 ag (i6 (-1)) ⟨-1, rfl, af, z.below⟩)
theorem icontf_walk (u0 : List Int) (u1 : Int → Bool) (ao1 : Option Addr) (cap2 : Nat) (fid4 : Nat) (caps5 : Array Value) (Z : Fz) (w : World) (hs3 : SlR t6 Z ao1 cap2 u0) (hf6 : ∀ (Z1 : Fz) (w1 : World), Z.le Z1 → Z1.on w1 → ∀ (x0 : Int), Calls Tryz.prog fid4 (#[i6 x0] ++ caps5) w1 fun e w2 => e = .returned (.bool (u1 x0)) ∧ Below w1.heap.size w1 w2) (hg7 : ∀ x w, Sem.run Tryz.prog (callFunc fid4 x) w = .ok (.enter fid4 x) w) (hZ : Z.on w) {K : Bool → Prop} (hp : icontf_vc u0 u1 K) : Calls Tryz.prog 65 #[.slice ao1 u0.length cap2, .func (.func fid4) #[] caps5] w fun e w' => ∃ r : Bool, e = .returned (.bool r) ∧ K r ∧ Below w.heap.size w w' := by
 refine enter0 Tryz.func65 rfl rfl (by kernel_rfl) ?_; intro o c; have a := Mem.start w Z hZ; have j := Fz.le.refl Z
 have k := hp (hs3.small)
 refine sqB c a [] [] [] ?_; intro p d
 refine sqH ?_; intro l f
 refine bt d a 2 [] [] [(5, .slice ao1 u0.length cap2), (6, .func (.func fid4) #[] caps5)] ?_; intro q g
 refine ck g 98 #[.slice ao1 u0.length cap2, .func (.func fid4) #[] caps5] ?_
 refine (iidxf_walk u0 u1 ao1 cap2 fid4 caps5 _ _ hs3 (fun Z1 w1 h1 h2 => hf6 Z1 w1 (j.trans h1) h2) hg7 a.fz k).mono ?_; rintro _ s ⟨b, rfl, m, hb⟩; refine ⟨_, rfl, ?_⟩; intro t h; have i := a.call hb
 refine bt h i 2 [] [] [(4, .bool (decide (b ≥ 0)))] ?_; intro u n
 apply f
 exact r_ (ra1 n (.bool (decide (b ≥ 0))) ⟨decide (b ≥ 0), rfl, m, i.below⟩)
theorem rplaces_walk (u0 : Signal)  (Z : Fz) (w : World)  (hZ : Z.on w) {K : (List Int) → Prop} (hp : rplaces_vc u0 K) : Calls Tryz.prog 56 #[.agg #[str u0.Name, i6 u0.Start, i6 u0.Size, .bool u0.Back, .bool u0.Signed, i6 u0.Mul, i6 u0.Div, i6 u0.Add, i6 u0.Key]] w fun e w' => ∃ (r : (List Int)) (ao1001 : Option Addr) (cap1002 : Nat) (Z' : Fz), e = .returned (.slice ao1001 r.length cap1002) ∧ K r ∧ Mem w.heap.size [] w Z [.own t6 3 ao1001 cap1002 r] Z' w' := by
 refine enter0 Tryz.func56 rfl rfl (by kernel_rfl) ?_; intro a0 C; have D := Mem.start w Z hZ
 refine sqH ?_; intro av E
 refine nw C D pb (e46P u0) 46 ?_; intro f a3 bc F x
 refine s1 F 2 (.slice none 0 0) ?_; intro a7 G
 apply E
 refine sqH ?_; intro aw H
 refine bt G x 2 [0] [] [(9, i6 u0.Size)] ?_; intro bd I
 obtain ⟨be, n⟩ := hp
 refine mks I x (T := t6) u0.Size u0.Size (k := .i64) (k' := .i64) (e := 3) (bytes := 8) (zs := [i6 0]) (z := 0) (by simp only [lim]; omega) (nog rfl _) rfl (by kernel_rfl) rfl (by kernel_rfl) (by kernel_rfl) (by kernel_rfl) (by kernel_rfl) rfl ?_; intro b bf ax J L
 have h : Mem w.heap.size [] w Z [.own t6 3 (sm b) u0.Size.toNat (List.replicate u0.Size.toNat (0 : Int)), .row f (e46P u0) 46] Z ax := L
 refine s1 J 3 (.slice (sm b) (List.replicate u0.Size.toNat (0 : Int)).length u0.Size.toNat) ?_; intro bg M
 apply H
 refine s_ (sqB M h [1] [] [(13, .bool (!u0.Back))] ?_); intro bh j
 refine cd j (t := !u0.Back) (by kernel_rfl) (fun y => ?_) (fun y => ?_)
 · -- yes
  have ay := n.1 y
  refine s_ (sqB j h [] [] [(15, i6 ((List.replicate u0.Size.toNat (0 : Int)).length : Int)), (16, i6 0)] ?_); intro N O
  apply b_
  have P : Fr 61 [] [⟨1, [], pt f 0⟩, ⟨3, [], .slice (sm b) (List.replicate u0.Size.toNat (0 : Int)).length u0.Size.toNat⟩, ⟨15, [], i6 ((List.replicate u0.Size.toNat (0 : Int)).length : Int)⟩, ⟨16, [], i6 0⟩] N := O.reg
  obtain ⟨az, aA, aB, aC⟩ := ay
  refine lp (ι := Int × (List Int)) (fun s => [⟨1, [], pt f 0⟩, ⟨3, [], .slice (sm b) s.2.length u0.Size.toNat⟩, ⟨15, [], i6 ((List.replicate u0.Size.toNat (0 : Int)).length : Int)⟩, ⟨16, [], i6 s.1⟩]) (fun s => [.own t6 3 (sm b) u0.Size.toNat s.2, .row f (e46P u0) 46]) (fun s => Z) (fun s => az s.1 s.2) (fun s => aA s.1 s.2) ⟨0, (List.replicate u0.Size.toNat (0 : Int))⟩ aB (by exact P.region (by kernel_rfl) (by kernel_rfl)) (by exact h) ?_
  rintro ⟨c, d⟩ aD aE aF R S
  have o := aC c d aD
  refine sqB R S [] [] [(17, .bool (decide (c < ((List.replicate u0.Size.toNat (0 : Int)).length : Int))))] ?_; intro bi l
  apply s_
  refine cd l (t := decide (c < ((List.replicate u0.Size.toNat (0 : Int)).length : Int))) (by kernel_rfl) (fun A => ?_) (fun A => ?_)
  · -- yes
   have aG := o.1 A
   refine k_ (s_ (b_ (sqB l S [] [] [(4, i6 c)] ?_))); intro bj V
   refine rgH ?_; intro aH W
   refine bt V S 6 [1] [] [(19, .slice (sm b) d.length u0.Size.toNat), (20, i6 c), (24, i6 (w64 (u0.Start + c)))] ?_; intro bk X
   obtain ⟨aI, Y⟩ := aG
   refine ixo X S 0 (T := t6) (xs := d) c aI (k := .i64) (e := 3) (bytes := 8) (nog rfl _) rfl (by kernel_rfl) rfl (by kernel_rfl) (by kernel_rfl) rfl (by kernel_rfl) ?_; intro aJ aK aL p
   obtain rfl : b = aJ := by simpa using aL
   refine so p S 0 (T := t6) (xs := d) c.toNat (w64 (u0.Start + c)) (u := i6 (w64 (u0.Start + c))) (nog rfl _) rfl rfl (by kernel_rfl) rfl (by kernel_rfl) rfl (by kernel_rfl) (by first | omega | (simp only [List.length_set] at *; omega)) rfl ?_; intro aM aa
   have ab : Fr 61 [] [⟨1, [], pt f 0⟩, ⟨3, [], .slice (sm b) (d.set c.toNat (w64 (u0.Start + c))).length u0.Size.toNat⟩, ⟨4, [], i6 c⟩, ⟨15, [], i6 ((List.replicate u0.Size.toNat (0 : Int)).length : Int)⟩, ⟨16, [], i6 c⟩, ⟨17, [], .bool (decide (c < ((List.replicate u0.Size.toNat (0 : Int)).length : Int)))⟩, ⟨19, [], .slice (sm b) (d.set c.toNat (w64 (u0.Start + c))).length u0.Size.toNat⟩, ⟨20, [], i6 c⟩, ⟨24, [], i6 (w64 (u0.Start + c))⟩, ⟨25, [], .pointer (some ⟨b, c.toNat * 1, none⟩)⟩] aK := by (try simp only [List.length_set] at p); (try simp only [List.length_set]); exact p.region (by kernel_rfl) (by kernel_rfl)
   have ac : Mem w.heap.size [] w Z [.own t6 3 (sm b) u0.Size.toNat (d.set c.toNat (w64 (u0.Start + c))), .row f (e46P u0) 46] Z aM := aa
   apply W
   refine j_ (t_ (rgB ab ac [] [] [(16, i6 (w64 (c + 1)))] ?_)); intro bl aN
   exact d_ ⟨⟨w64 (c + 1), d.set c.toNat (w64 (u0.Start + c))⟩, Y.1, Y.2, (aN.region (by kernel_rfl) (by kernel_rfl)).anyβ _ (by kernel_rfl), ac.kp⟩
  · -- no
   have aO := o.2 A
   refine x_ (y_ (y_ (z_ (t_ (sqB l S [] [] [(2, .slice (sm b) d.length u0.Size.toNat)] ?_))))); intro bm aP
   exact r_ (h_ (ra1 aP (.slice (sm b) d.length u0.Size.toNat) ⟨d, (sm b), u0.Size.toNat, Z, rfl, aO, S.kp⟩))
 · -- no
  have aQ := n.2 y
  refine k_ (sqB j h [1, 1] [] [(5, i6 (w64 ((w64 ((w64 ((w64 (u0.Start.tdiv 8)) * 8)) + 7)) - (u0.Start.tmod 8))))] ?_); intro bn ad
  refine s_ (sqB ad h [] [] [(38, i6 ((List.replicate u0.Size.toNat (0 : Int)).length : Int)), (39, i6 0)] ?_); intro ae af
  apply b_
  have ag : Fr 61 [] [⟨1, [], pt f 0⟩, ⟨3, [], .slice (sm b) (List.replicate u0.Size.toNat (0 : Int)).length u0.Size.toNat⟩, ⟨5, [], i6 (w64 ((w64 ((w64 ((w64 (u0.Start.tdiv 8)) * 8)) + 7)) - (u0.Start.tmod 8)))⟩, ⟨38, [], i6 ((List.replicate u0.Size.toNat (0 : Int)).length : Int)⟩, ⟨39, [], i6 0⟩] ae := af.reg
  obtain ⟨aR, aS, aT, aU⟩ := aQ
  refine lp (ι := Int × (List Int)) (fun s => [⟨1, [], pt f 0⟩, ⟨3, [], .slice (sm b) s.2.length u0.Size.toNat⟩, ⟨5, [], i6 (w64 ((w64 ((w64 ((w64 (u0.Start.tdiv 8)) * 8)) + 7)) - (u0.Start.tmod 8)))⟩, ⟨38, [], i6 ((List.replicate u0.Size.toNat (0 : Int)).length : Int)⟩, ⟨39, [], i6 s.1⟩]) (fun s => [.own t6 3 (sm b) u0.Size.toNat s.2, .row f (e46P u0) 46]) (fun s => Z) (fun s => aR s.1 s.2) (fun s => aS s.1 s.2) ⟨0, (List.replicate u0.Size.toNat (0 : Int))⟩ aT (by exact ag.region (by kernel_rfl) (by kernel_rfl)) (by exact h) ?_
  rintro ⟨a, d⟩ aV aW aX ai aj
  have q := aU a d aV
  refine sqB ai aj [] [] [(40, .bool (decide (a < ((List.replicate u0.Size.toNat (0 : Int)).length : Int))))] ?_; intro bo m
  apply s_
  refine cd m (t := decide (a < ((List.replicate u0.Size.toNat (0 : Int)).length : Int))) (by kernel_rfl) (fun B => ?_) (fun B => ?_)
  · -- yes
   have aY := q.1 B
   refine k_ (s_ (b_ (sqB m aj [] [] [(6, i6 a)] ?_))); intro bp al
   refine sqB al aj [1] [] [(7, i6 (w64 ((w64 ((w64 ((w64 ((w64 ((w64 ((w64 (u0.Start.tdiv 8)) * 8)) + 7)) - (u0.Start.tmod 8))) + u0.Size)) - 1)) - a)))] ?_; intro bq am
   refine rgH ?_; intro aZ an
   refine bt am aj 9 [] [] [(49, .slice (sm b) d.length u0.Size.toNat), (50, i6 a), (57, i6 (w64 ((w64 ((w64 ((w64 ((w64 ((w64 ((w64 ((w64 ((w64 ((w64 ((w64 (u0.Start.tdiv 8)) * 8)) + 7)) - (u0.Start.tmod 8))) + u0.Size)) - 1)) - a)).tdiv 8)) * 8)) + 7)) - ((w64 ((w64 ((w64 ((w64 ((w64 ((w64 ((w64 (u0.Start.tdiv 8)) * 8)) + 7)) - (u0.Start.tmod 8))) + u0.Size)) - 1)) - a)).tmod 8))))] ?_; intro br ao
   obtain ⟨a1, ap⟩ := aY
   refine ixo ao aj 0 (T := t6) (xs := d) a a1 (k := .i64) (e := 3) (bytes := 8) (nog rfl _) rfl (by kernel_rfl) rfl (by kernel_rfl) (by kernel_rfl) rfl (by kernel_rfl) ?_; intro a2 a4 a5 v
   obtain rfl : b = a2 := by simpa using a5
   refine so v aj 0 (T := t6) (xs := d) a.toNat (w64 ((w64 ((w64 ((w64 ((w64 ((w64 ((w64 ((w64 ((w64 ((w64 ((w64 (u0.Start.tdiv 8)) * 8)) + 7)) - (u0.Start.tmod 8))) + u0.Size)) - 1)) - a)).tdiv 8)) * 8)) + 7)) - ((w64 ((w64 ((w64 ((w64 ((w64 ((w64 ((w64 (u0.Start.tdiv 8)) * 8)) + 7)) - (u0.Start.tmod 8))) + u0.Size)) - 1)) - a)).tmod 8))) (u := i6 (w64 ((w64 ((w64 ((w64 ((w64 ((w64 ((w64 ((w64 ((w64 ((w64 ((w64 (u0.Start.tdiv 8)) * 8)) + 7)) - (u0.Start.tmod 8))) + u0.Size)) - 1)) - a)).tdiv 8)) * 8)) + 7)) - ((w64 ((w64 ((w64 ((w64 ((w64 ((w64 ((w64 (u0.Start.tdiv 8)) * 8)) + 7)) - (u0.Start.tmod 8))) + u0.Size)) - 1)) - a)).tmod 8)))) (nog rfl _) rfl rfl (by kernel_rfl) rfl (by kernel_rfl) rfl (by kernel_rfl) (by first | omega | (simp only [List.length_set] at *; omega)) rfl ?_; intro a6 aq
   have ar : Fr 61 [] [⟨1, [], pt f 0⟩, ⟨3, [], .slice (sm b) (d.set a.toNat (w64 ((w64 ((w64 ((w64 ((w64 ((w64 ((w64 ((w64 ((w64 ((w64 ((w64 (u0.Start.tdiv 8)) * 8)) + 7)) - (u0.Start.tmod 8))) + u0.Size)) - 1)) - a)).tdiv 8)) * 8)) + 7)) - ((w64 ((w64 ((w64 ((w64 ((w64 ((w64 ((w64 (u0.Start.tdiv 8)) * 8)) + 7)) - (u0.Start.tmod 8))) + u0.Size)) - 1)) - a)).tmod 8)))).length u0.Size.toNat⟩, ⟨5, [], i6 (w64 ((w64 ((w64 ((w64 (u0.Start.tdiv 8)) * 8)) + 7)) - (u0.Start.tmod 8)))⟩, ⟨6, [], i6 a⟩, ⟨7, [], i6 (w64 ((w64 ((w64 ((w64 ((w64 ((w64 ((w64 (u0.Start.tdiv 8)) * 8)) + 7)) - (u0.Start.tmod 8))) + u0.Size)) - 1)) - a))⟩, ⟨38, [], i6 ((List.replicate u0.Size.toNat (0 : Int)).length : Int)⟩, ⟨39, [], i6 a⟩, ⟨40, [], .bool (decide (a < ((List.replicate u0.Size.toNat (0 : Int)).length : Int)))⟩, ⟨49, [], .slice (sm b) (d.set a.toNat (w64 ((w64 ((w64 ((w64 ((w64 ((w64 ((w64 ((w64 ((w64 ((w64 ((w64 (u0.Start.tdiv 8)) * 8)) + 7)) - (u0.Start.tmod 8))) + u0.Size)) - 1)) - a)).tdiv 8)) * 8)) + 7)) - ((w64 ((w64 ((w64 ((w64 ((w64 ((w64 ((w64 (u0.Start.tdiv 8)) * 8)) + 7)) - (u0.Start.tmod 8))) + u0.Size)) - 1)) - a)).tmod 8)))).length u0.Size.toNat⟩, ⟨50, [], i6 a⟩, ⟨57, [], i6 (w64 ((w64 ((w64 ((w64 ((w64 ((w64 ((w64 ((w64 ((w64 ((w64 ((w64 (u0.Start.tdiv 8)) * 8)) + 7)) - (u0.Start.tmod 8))) + u0.Size)) - 1)) - a)).tdiv 8)) * 8)) + 7)) - ((w64 ((w64 ((w64 ((w64 ((w64 ((w64 ((w64 (u0.Start.tdiv 8)) * 8)) + 7)) - (u0.Start.tmod 8))) + u0.Size)) - 1)) - a)).tmod 8)))⟩, ⟨58, [], .pointer (some ⟨b, a.toNat * 1, none⟩)⟩] a4 := by (try simp only [List.length_set] at v); (try simp only [List.length_set]); exact v.region (by kernel_rfl) (by kernel_rfl)
   have au : Mem w.heap.size [] w Z [.own t6 3 (sm b) u0.Size.toNat (d.set a.toNat (w64 ((w64 ((w64 ((w64 ((w64 ((w64 ((w64 ((w64 ((w64 ((w64 ((w64 (u0.Start.tdiv 8)) * 8)) + 7)) - (u0.Start.tmod 8))) + u0.Size)) - 1)) - a)).tdiv 8)) * 8)) + 7)) - ((w64 ((w64 ((w64 ((w64 ((w64 ((w64 ((w64 (u0.Start.tdiv 8)) * 8)) + 7)) - (u0.Start.tmod 8))) + u0.Size)) - 1)) - a)).tmod 8)))), .row f (e46P u0) 46] Z a6 := aq
   apply an
   refine j_ (t_ (rgB ar au [] [] [(39, i6 (w64 (a + 1)))] ?_)); intro bs a8
   exact d_ ⟨⟨w64 (a + 1), d.set a.toNat (w64 ((w64 ((w64 ((w64 ((w64 ((w64 ((w64 ((w64 ((w64 ((w64 ((w64 (u0.Start.tdiv 8)) * 8)) + 7)) - (u0.Start.tmod 8))) + u0.Size)) - 1)) - a)).tdiv 8)) * 8)) + 7)) - ((w64 ((w64 ((w64 ((w64 ((w64 ((w64 ((w64 (u0.Start.tdiv 8)) * 8)) + 7)) - (u0.Start.tmod 8))) + u0.Size)) - 1)) - a)).tmod 8)))⟩, ap.1, ap.2, (a8.region (by kernel_rfl) (by kernel_rfl)).anyβ _ (by kernel_rfl), au.kp⟩
  · -- no
   have a9 := q.2 B
   refine x_ (y_ (y_ (z_ (t_ (sqB m aj [] [] [(2, .slice (sm b) d.length u0.Size.toNat)] ?_))))); intro bu ba
   exact r_ (ra1 ba (.slice (sm b) d.length u0.Size.toNat) ⟨d, (sm b), u0.Size.toNat, Z, rfl, a9, aj.kp⟩)
theorem rin_walk (u0 : Int) (u1 : Int) (u2 : Int)  (Z : Fz) (w : World)  (hZ : Z.on w) {K : Bool → Prop} (hp : rin_vc u0 u1 u2 K) : Calls Tryz.prog 64 #[i6 u0, i6 u1, i6 u2] w fun e w' => ∃ r : Bool, e = .returned (.bool r) ∧ K r ∧ Below w.heap.size w w' := by
 refine enter0 Tryz.func64 rfl rfl (by kernel_rfl) ?_; intro f b; have a := Mem.start w Z hZ
 refine sqB b a [] [] [] ?_; intro h c
 refine sqB c a [] [] [(6, .bool ((decide (u0 ≥ u1)) && (decide (u0 ≤ u2))))] ?_; intro i d
 exact r_ (ra1 d (.bool ((decide (u0 ≥ u1)) && (decide (u0 ≤ u2)))) ⟨(decide (u0 ≥ u1)) && (decide (u0 ≤ u2)), rfl, hp, a.below⟩)
def rin_fun (u0 : Int) (u1 : Int) (u2 : Int)  (Z : Fz) (w : World)  (hZ : Z.on w) := f_ (rin_walk u0 u1 u2  Z w  hZ (rin_ok u0 u1 u2))
theorem trim_fun (u0 : List UInt8) (u1 : List UInt8) (hpre : u0.length ≤ 9223372036854775807 ∧ u1.length < 4294967281 ∧ u1.all (fun b => decide (b.toNat < 128)) = true) (Z : Fz) (w : World) (hZ : Z.on w) : Calls Tryz.prog 63 #[str u0, str u1] w fun e w' => e = .returned (str (trimS u0 u1)) ∧ Below w.heap.size w w' := by
 have h := Any.strings_Trim_laid Tryz.lays160 (by kernel_rfl) ⟨⟨u0⟩⟩ ⟨⟨u1⟩⟩ w (by show u0.length ≤ _; exact hpre.1) (by show u1.length < _; exact hpre.2.1) (ascii_of_all hpre.2.2)
 exact h
end Go.Proofs.YtdndfbamhnchfaaGreatDoor
set_option linter.unusedVariables false
set_option linter.unusedSimpArgs false
set_option linter.defProp false
set_option maxRecDepth 100000
set_option maxHeartbeats 0
namespace Go.Proofs.YtdndfbamhnchfaaGreatDoor
open Go.Sy Go.RowKit
abbrev e46Q (X : Signal) : List Value := [str X.Name, i6 X.Start, i6 X.Size, .bool X.Back, .bool X.Signed, i6 X.Mul, i6 X.Div, i6 X.Add, i6 X.Key]
def rplaces_fun (u0 : Signal) (hpre : (0 ≤ u0.Start ∧ u0.Start ≤ 512) ∧ 1 ≤ u0.Size ∧ u0.Size ≤ 40)  (Z : Fz) (w : World)  (hZ : Z.on w) := fc_ (rplaces_walk u0  Z w  hZ (rplaces_ok u0 hpre))
def icontf_fun (u0 : List Int) (u1 : Int → Bool) (ao1 : Option Addr) (cap2 : Nat) (fid4 : Nat) (caps5 : Array Value) (Z : Fz) (w : World) (hs3 : SlR t6 Z ao1 cap2 u0) (hf6 : ∀ (Z1 : Fz) (w1 : World), Z.le Z1 → Z1.on w1 → ∀ (x0 : Int), Calls Tryz.prog fid4 (#[i6 x0] ++ caps5) w1 fun e w2 => e = .returned (.bool (u1 x0)) ∧ Below w1.heap.size w1 w2) (hg7 : ∀ x w, Sem.run Tryz.prog (callFunc fid4 x) w = .ok (.enter fid4 x) w) (hZ : Z.on w) := f_ (icontf_walk u0 u1 ao1 cap2 fid4 caps5 Z w hs3 hf6 hg7 hZ (icontf_ok u0 u1))
theorem risname_walk (u0 : List UInt8)  (Z : Fz) (w : World)  (hZ : Z.on w) {K : Bool → Prop} (hp : risname_vc u0 K) : Calls Tryz.prog 26 #[str u0] w fun e w' => ∃ r : Bool, e = .returned (.bool r) ∧ K r ∧ Below w.heap.size w w' := by
 refine enter0 Tryz.func26 rfl rfl (by kernel_rfl) ?_; intro a0 C; have a := Mem.start w Z hZ
 refine sqB C a [] [] [] ?_; intro a2 D
 refine s_ (sqH ?_); intro y b
 refine bt D a 8 [] [27] [(10, .bool ((u0 == ([] : List UInt8)) || (decide ((u0.length : Int) > 16))))] ?_; intro ap j
 rcases Bool.eq_false_or_eq_true ((u0 == ([] : List UInt8)) || (decide ((u0.length : Int) > 16))) with g | g
 · -- true
  have T := hp.1 g
  have E := j.reval (d := 10) (c := []) (v := .bool ((u0 == ([] : List UInt8)) || (decide ((u0.length : Int) > 16)))) (by kernel_rfl) (.bool true) (by rw [g])
  refine bt E a 9 [] [11, 12, 13, 14, 15, 16, 17, 18, 19] [(19, .bool true)] ?_; intro aq z
  apply b
  refine cdT z (by kernel_rfl) ?_
  refine sqB z a [] [] [(2, .bool false)] ?_; intro ar U
  exact r_ (h_ (ra1 U (.bool false) ⟨false, rfl, T, a.below⟩))
 · -- false
  have V := hp.2 g
  have l := j.reval (d := 10) (c := []) (v := .bool ((u0 == ([] : List UInt8)) || (decide ((u0.length : Int) > 16)))) (by kernel_rfl) (.bool false) (by rw [g])
  refine g_ l false (str u0) ?_; intro au m
  obtain ⟨W, X⟩ := V
  obtain ⟨f, F⟩ : ∃ q, u0[(0 : Int).toNat]? = some q := ⟨_, List.getElem?_eq_getElem (by omega)⟩; have n := X f F
  refine v_ m (y8 (f.toNat : Int)) (wK m false) (stridx_run m (k := .i64) rfl (by kernel_rfl) (by kernel_rfl) (by kernel_rfl) W.1 F) ?_; intro av G
  refine bt G a 2 [] [13, 14] [(14, .bool (decide ((f.toNat : Int) ≥ 48)))] ?_; intro aw o
  rcases Bool.eq_false_or_eq_true (decide ((f.toNat : Int) ≥ 48)) with h | h
  · -- true
   have Y := n.1 h
   have p := o.reval (d := 14) (c := []) (v := .bool (decide ((f.toNat : Int) ≥ 48))) (by kernel_rfl) (.bool true) (by rw [h])
   refine g_ p true (str u0) ?_; intro ax s
   obtain ⟨aa, ab⟩ := Y
   obtain ⟨u, H⟩ : ∃ q, u0[(0 : Int).toNat]? = some q := ⟨_, List.getElem?_eq_getElem (by omega)⟩; have x := ab u H
   refine v_ s (y8 (u.toNat : Int)) (wK s true) (stridx_run s (k := .i64) rfl (by kernel_rfl) (by kernel_rfl) (by kernel_rfl) aa.1 H) ?_; intro ay I
   refine bt I a 3 [] [17, 18, 19] [(19, .bool (decide ((u.toNat : Int) ≤ 57)))] ?_; intro az i
   apply b
   refine cd i (t := decide ((u.toNat : Int) ≤ 57)) (by kernel_rfl) (fun A => ?_) (fun A => ?_)
   · -- yes
    have ac := x.1 A
    refine sqB i a [] [] [(2, .bool false)] ?_; intro aA ad
    exact r_ (h_ (ra1 ad (.bool false) ⟨false, rfl, ac, a.below⟩))
   · -- no
    have ae := x.2 A
    refine k_ (sqH ?_); intro af J
    refine s1 i 20 (str u0) ?_; intro aB L
    obtain ⟨ag, ah⟩ := ae
    refine fc L a (trim_fun u0 ([97, 98, 99, 100, 101, 102, 103, 104, 105, 106, 107, 108, 109, 110, 111, 112, 113, 114, 115, 116, 117, 118, 119, 120, 121, 122, 65, 66, 67, 68, 69, 70, 71, 72, 73, 74, 75, 76, 77, 78, 79, 80, 81, 82, 83, 84, 85, 86, 87, 88, 89, 90, 48, 49, 50, 51, 52, 53, 54, 55, 56, 57] : List UInt8) ag _ _ a.fz) ?_; intro aC aD M N
    refine bt M N 2 [] [45] [(2, .bool ((trimS u0 ([97, 98, 99, 100, 101, 102, 103, 104, 105, 106, 107, 108, 109, 110, 111, 112, 113, 114, 115, 116, 117, 118, 119, 120, 121, 122, 65, 66, 67, 68, 69, 70, 71, 72, 73, 74, 75, 76, 77, 78, 79, 80, 81, 82, 83, 84, 85, 86, 87, 88, 89, 90, 48, 49, 50, 51, 52, 53, 54, 55, 56, 57] : List UInt8)) == ([] : List UInt8)))] ?_; intro aE ai
    apply J
    exact r_ (ra1 ai (.bool ((trimS u0 ([97, 98, 99, 100, 101, 102, 103, 104, 105, 106, 107, 108, 109, 110, 111, 112, 113, 114, 115, 116, 117, 118, 119, 120, 121, 122, 65, 66, 67, 68, 69, 70, 71, 72, 73, 74, 75, 76, 77, 78, 79, 80, 81, 82, 83, 84, 85, 86, 87, 88, 89, 90, 48, 49, 50, 51, 52, 53, 54, 55, 56, 57] : List UInt8)) == ([] : List UInt8))) ⟨(trimS u0 ([97, 98, 99, 100, 101, 102, 103, 104, 105, 106, 107, 108, 109, 110, 111, 112, 113, 114, 115, 116, 117, 118, 119, 120, 121, 122, 65, 66, 67, 68, 69, 70, 71, 72, 73, 74, 75, 76, 77, 78, 79, 80, 81, 82, 83, 84, 85, 86, 87, 88, 89, 90, 48, 49, 50, 51, 52, 53, 54, 55, 56, 57] : List UInt8)) == ([] : List UInt8), rfl, ah, N.below⟩)
  · -- false
   have aj := n.2 h
   have O := o.reval (d := 14) (c := []) (v := .bool (decide ((f.toNat : Int) ≥ 48))) (by kernel_rfl) (.bool false) (by rw [h])
   refine bt O a 5 [] [15, 16, 17, 18, 19] [(19, .bool false)] ?_; intro aF B
   apply b
   refine cdF B (by kernel_rfl) ?_
   refine k_ (sqH ?_); intro ak P
   refine s1 B 20 (str u0) ?_; intro aG Q
   obtain ⟨al, am⟩ := aj
   refine fc Q a (trim_fun u0 ([97, 98, 99, 100, 101, 102, 103, 104, 105, 106, 107, 108, 109, 110, 111, 112, 113, 114, 115, 116, 117, 118, 119, 120, 121, 122, 65, 66, 67, 68, 69, 70, 71, 72, 73, 74, 75, 76, 77, 78, 79, 80, 81, 82, 83, 84, 85, 86, 87, 88, 89, 90, 48, 49, 50, 51, 52, 53, 54, 55, 56, 57] : List UInt8) al _ _ a.fz) ?_; intro aH aI R S
   refine bt R S 2 [] [45] [(2, .bool ((trimS u0 ([97, 98, 99, 100, 101, 102, 103, 104, 105, 106, 107, 108, 109, 110, 111, 112, 113, 114, 115, 116, 117, 118, 119, 120, 121, 122, 65, 66, 67, 68, 69, 70, 71, 72, 73, 74, 75, 76, 77, 78, 79, 80, 81, 82, 83, 84, 85, 86, 87, 88, 89, 90, 48, 49, 50, 51, 52, 53, 54, 55, 56, 57] : List UInt8)) == ([] : List UInt8)))] ?_; intro aJ an
   apply P
   exact r_ (ra1 an (.bool ((trimS u0 ([97, 98, 99, 100, 101, 102, 103, 104, 105, 106, 107, 108, 109, 110, 111, 112, 113, 114, 115, 116, 117, 118, 119, 120, 121, 122, 65, 66, 67, 68, 69, 70, 71, 72, 73, 74, 75, 76, 77, 78, 79, 80, 81, 82, 83, 84, 85, 86, 87, 88, 89, 90, 48, 49, 50, 51, 52, 53, 54, 55, 56, 57] : List UInt8)) == ([] : List UInt8))) ⟨(trimS u0 ([97, 98, 99, 100, 101, 102, 103, 104, 105, 106, 107, 108, 109, 110, 111, 112, 113, 114, 115, 116, 117, 118, 119, 120, 121, 122, 65, 66, 67, 68, 69, 70, 71, 72, 73, 74, 75, 76, 77, 78, 79, 80, 81, 82, 83, 84, 85, 86, 87, 88, 89, 90, 48, 49, 50, 51, 52, 53, 54, 55, 56, 57] : List UInt8)) == ([] : List UInt8), rfl, am, S.below⟩)
theorem rov1_walk (u0 : Int) (u1 : List Int) (cb4 co5 : Nat) (ao1 : Option Addr) (cap2 : Nat) (Z : Fz) (w : World) (hP6 : PtR Z cb4 co5 [.slice ao1 u1.length cap2]) (hs3 : SlR t6 Z ao1 cap2 u1) (hZ : Z.on w) {K : Bool → Prop} (hp : rov1_vc u0 u1 K) : Calls Tryz.prog 66 #[i6 u0, pt cb4 co5] w fun e w' => ∃ r : Bool, e = .returned (.bool r) ∧ K r ∧ Below w.heap.size w w' := by
 refine enter0 Tryz.func66 rfl rfl (by kernel_rfl) ?_; intro l b; have a := Mem.start w Z hZ
 refine sqB b a [] [] [] ?_; intro n c
 refine sqH ?_; intro i d
 refine z1 c a 4 hP6 0 (.slice ao1 u1.length cap2) rfl ?_; intro o f
 refine s1 f 5 (i6 u0) ?_; intro p g
 refine fc g a (scontains_fun u1 u0 ao1 cap2 _ _ hs3 a.fz) ?_; intro q s h j
 refine s1 h 3 (.bool (scontainsS u1 u0)) ?_; intro t k
 apply d
 exact r_ (ra1 k (.bool (scontainsS u1 u0)) ⟨(scontainsS u1 u0), rfl, hp, j.below⟩)
def rov1_fun (u0 : Int) (u1 : List Int) (cb4 co5 : Nat) (ao1 : Option Addr) (cap2 : Nat) (Z : Fz) (w : World) (hP6 : PtR Z cb4 co5 [.slice ao1 u1.length cap2]) (hs3 : SlR t6 Z ao1 cap2 u1) (hZ : Z.on w) := f_ (rov1_walk u0 u1 cb4 co5 ao1 cap2 Z w hP6 hs3 hZ (rov1_ok u0 u1))
theorem rrawof_walk (u0 : Signal) (u1 : List Int) (ao1 : Option Addr) (cap2 : Nat) (Z : Fz) (w : World) (hs3 : SlR t8 Z ao1 cap2 u1) (hZ : Z.on w) {K : Int → Prop} (hp : rrawof_vc u0 u1 K) : Calls Tryz.prog 34 #[.agg #[str u0.Name, i6 u0.Start, i6 u0.Size, .bool u0.Back, .bool u0.Signed, i6 u0.Mul, i6 u0.Div, i6 u0.Add, i6 u0.Key], .slice ao1 u1.length cap2] w fun e w' => ∃ r : Int, e = .returned (i6 r) ∧ K r ∧ Below w.heap.size w w' := by
 refine enter0 Tryz.func34 rfl rfl (by kernel_rfl) ?_; intro a0 U; have V := Mem.start w Z hZ
 have aZ := hp (hs3.small)
 refine sqH ?_; intro a2 W
 refine nw U V pb (e46Q u0) 46 ?_; intro i a7 bV X n
 refine s1 X 4 (i6 0) ?_; intro bW Y
 apply W
 refine sqB Y n [] [] [(5, i6 0)] ?_; intro bX aa
 refine s_ (sqH ?_); intro a3 ab
 refine l2 aa n 8 0 0 9 (e46Q u0) rfl rfl ?_; intro bY ac
 obtain ⟨a4, ad⟩ := aZ
 refine ck ac 56 #[.agg (e46Q u0).toArray] ?_
 refine (rplaces_fun u0 a4 _ _ n.fz).mono ?_; rintro _ ae ⟨j, l, a5, rfl, hm⟩; refine ⟨_, rfl, ?_⟩; intro bZ af; have ag := n.callZ hm; have ah := hm.ext.le
 replace hs3 := hs3.mono ah
 have I : Mem w.heap.size [] w Z [.own t6 3 j l (placesS u0), .row i (e46Q u0) 46] a5 ae := ag
 have a6 := ad (I.ownSmall 0 rfl)
 refine bt af I 2 [] [] [(10, i6 ((placesS u0).length : Int)), (11, i6 0)] ?_; intro ai aj
 apply ab
 apply b_
 have ak : Fr 47 [] [⟨1, [], .slice ao1 u1.length cap2⟩, ⟨2, [], pt i 0⟩, ⟨5, [], i6 0⟩, ⟨9, [], .slice j (placesS u0).length l⟩, ⟨10, [], i6 ((placesS u0).length : Int)⟩, ⟨11, [], i6 0⟩] ai := aj.reg
 obtain ⟨y, al, am, a8⟩ := I.freeze 0 rfl
 replace hs3 := hs3.mono al
 have an : Mem w.heap.size [] w Z [.row i (e46Q u0) 46] y ae := am
 have ao : Fr 47 [] [⟨1, [], .slice ao1 u1.length cap2⟩, ⟨2, [], pt i 0⟩, ⟨5, [], i6 0⟩, ⟨9, [], .slice j (placesS u0).length l⟩, ⟨10, [], i6 ((placesS u0).length : Int)⟩, ⟨11, [], i6 0⟩] ai := ak.reg
 obtain ⟨a9, ba, bb, bc⟩ := a6
 refine lp (ι := Int × Int) (fun s => [⟨1, [], .slice ao1 u1.length cap2⟩, ⟨2, [], pt i 0⟩, ⟨5, [], i6 s.1⟩, ⟨9, [], .slice j (placesS u0).length l⟩, ⟨10, [], i6 ((placesS u0).length : Int)⟩, ⟨11, [], i6 s.2⟩]) (fun s => [.row i (e46Q u0) 46]) (fun s => y) (fun s => a9 s.1 s.2) (fun s => ba s.1 s.2) ⟨0, 0⟩ bb (by exact ao.region (by kernel_rfl) (by kernel_rfl)) (by exact an) ?_
 rintro ⟨a, b⟩ bd be bf ap aq
 have z := bc a b bd
 refine sqB ap aq [] [] [(12, .bool (decide (b < ((placesS u0).length : Int))))] ?_; intro au o
 apply s_
 refine cd o (t := decide (b < ((placesS u0).length : Int))) (by kernel_rfl) (fun J => ?_) (fun J => ?_)
 · -- yes
  have bg := z.1 J
  apply k_
  have av : Fr 47 [] [⟨1, [], .slice ao1 u1.length cap2⟩, ⟨2, [], pt i 0⟩, ⟨5, [], i6 a⟩, ⟨9, [], .slice j (placesS u0).length l⟩, ⟨10, [], i6 ((placesS u0).length : Int)⟩, ⟨11, [], i6 b⟩] au := o.reg
  obtain ⟨bh, bi, bj⟩ := bg
  refine wp_seq_k fun KJ64 hKJ65 => ?_
  have aw : ∀ (p : Int), bh p → ∀ a1 w1, Fr 47 [] [⟨1, [], .slice ao1 u1.length cap2⟩, ⟨2, [], pt i 0⟩, ⟨5, [], i6 p⟩, ⟨9, [], .slice j (placesS u0).length l⟩, ⟨10, [], i6 ((placesS u0).length : Int)⟩, ⟨11, [], i6 b⟩] a1 → Mem w.heap.size [] w Z [.row i (e46Q u0) 46] y w1 → KJ64 a1 w1 := by
   rintro p bk b0 b1 ax ay
   refine hKJ65 _ _ ?_
   have az := bj p bk
   refine rgB ax ay [] [] [(11, i6 (w64 (b + 1)))] ?_; intro b2 bl
   exact d_ ⟨⟨p, w64 (b + 1)⟩, az.1, az.2, (bl.region (by kernel_rfl) (by kernel_rfl)).anyβ _ (by kernel_rfl), ay.kp⟩
  refine b_ (sqH ?_); intro bm aA
  refine s1 av 13 (i6 b) ?_; intro b3 aB
  obtain ⟨bn, aC⟩ := bi
  refine ix_ aB a8 b bn .i64 3 8 ?_; intro b4 b5 bo h b7 bp bq br aD
  have bs := aC h bp
  obtain rfl : bo = ([i6 h] : List Value) := br
  refine z1 aD aq 15 bq 0 (i6 h) rfl ?_; intro b8 aE
  refine bt aE aq 2 [] [] [(6, i6 b), (7, i6 h)] ?_; intro bu aF
  apply aA
  have aG : Fr 47 [] [⟨1, [], .slice ao1 u1.length cap2⟩, ⟨2, [], pt i 0⟩, ⟨5, [], i6 a⟩, ⟨6, [], i6 b⟩, ⟨7, [], i6 h⟩, ⟨9, [], .slice j (placesS u0).length l⟩, ⟨10, [], i6 ((placesS u0).length : Int)⟩, ⟨11, [], i6 b⟩] bu := aF.reg
  refine sqQH mixed (by kernel_rfl) aq ?_; intro bv aH
  refine q1 aG 16 (.slice ao1 u1.length cap2) ?_; intro b9 aI
  refine q1 aI 17 (i6 h) ?_; intro ca aJ
  refine q1 aJ 18 (i6 (w64 (h.tdiv 8))) ?_; intro cb aK
  obtain ⟨bw, aL⟩ := bs
  refine qx_ aK hs3 (w64 (h.tdiv 8)) bw .i64 5 1 ?_; intro cc ce bx m cf bz bA bB M
  have bC := aL m bz
  obtain rfl : bx = ([y8 m] : List Value) := bB
  refine qz_ M bA 0 (y8 m) rfl ?_; intro cg aM
  refine q1 aM 21 (i6 h) ?_; intro ch aN
  refine q1 aN 22 (i6 (h.tmod 8)) ?_; intro ci N
  obtain ⟨bD, A⟩ := bC
  refine qu_ N (y8 (bShl .u8 1 (h.tmod 8))) (fun v132 hC => shl_run N (g := []) (k' := .i64) rfl (by kernel_rfl) (by kernel_rfl) bD rfl) ?_; intro cj aO
  refine q1 aO 24 (y8 (bAnd .u8 m (bShl .u8 1 (h.tmod 8)))) ?_; intro cl aP
  refine q1 aP 25 (.bool ((bAnd .u8 m (bShl .u8 1 (h.tmod 8))) != 0)) ?_; intro cm B
  refine qnl (aH _ ?_); intro cn C
  refine cd B (t := (bAnd .u8 m (bShl .u8 1 (h.tmod 8))) != 0) (by kernel_rfl) (fun O => ?_) (fun O => ?_)
  · -- yes
   have bE := A.1 O
   refine rgH ?_; intro bF aQ
   refine bt B C 2 [] [] [(26, i6 a), (27, i6 b)] ?_; intro co P
   obtain ⟨bG, bH⟩ := bE
   refine u_ P (i6 (bShl .i64 1 b)) (shl_run P (g := []) (k' := .i64) rfl (by kernel_rfl) (by kernel_rfl) bG rfl) ?_; intro cp aR
   refine bt aR C 2 [] [] [(5, i6 (w64 (a + (bShl .i64 1 b))))] ?_; intro cq bI
   apply aQ
   exact j_ (d_ (aw (w64 (a + (bShl .i64 1 b))) bH _ _ ((bI.region (by kernel_rfl) (by kernel_rfl)).anyβ _ (by kernel_rfl)) (C.kp)))
  · -- no
   have bJ := A.2 O
   exact l_ (j_ (d_ (aw a bJ _ _ ((B.region (by kernel_rfl) (by kernel_rfl)).anyβ _ (by kernel_rfl)) (C.kp))))
 · -- no
  have D := z.2 J
  refine x_ (y_ (y_ (z_ (t_ (s_ (sqH ?_)))))); intro aS E
  refine bt o aq 3 [0] [] [(33, .bool u0.Signed)] ?_; intro cr F
  rcases Bool.eq_false_or_eq_true (u0.Signed) with q | q
  · -- true
   have bK := D.1 q
   have aT := F.reval (d := 33) (c := []) (v := .bool u0.Signed) (by kernel_rfl) (.bool true) (by rw [q])
   refine bt aT aq 4 [0] [34, 35, 36, 37] [(34, i6 a), (37, i6 (w64 (u0.Size - 1)))] ?_; intro cs G
   obtain ⟨bL, H⟩ := bK
   refine v_ G (i6 (bShl .i64 1 (w64 (u0.Size - 1)))) (wK G true) (shl_run G (g := []) (k' := .i64) rfl (by kernel_rfl) (by kernel_rfl) bL rfl) ?_; intro ct aU
   refine bt aU aq 2 [] [39, 40] [(40, .bool (decide (a ≥ (bShl .i64 1 (w64 (u0.Size - 1))))))] ?_; intro cu u
   apply E
   refine cd u (t := decide (a ≥ (bShl .i64 1 (w64 (u0.Size - 1))))) (by kernel_rfl) (fun Q => ?_) (fun Q => ?_)
   · -- yes
    have bM := H.1 Q
    refine rgH ?_; intro bN aV
    refine bt u aq 3 [0] [] [(41, i6 a), (43, i6 u0.Size)] ?_; intro cv R
    obtain ⟨bO, bP⟩ := bM
    refine u_ R (i6 (bShl .i64 1 u0.Size)) (shl_run R (g := []) (k' := .i64) rfl (by kernel_rfl) (by kernel_rfl) bO rfl) ?_; intro cw aW
    refine bt aW aq 2 [] [] [(5, i6 (w64 (a - (bShl .i64 1 u0.Size))))] ?_; intro cx aX
    apply aV
    refine t_ (sqB aX aq [] [] [(4, i6 (w64 (a - (bShl .i64 1 u0.Size))))] ?_); intro cy bQ
    exact r_ (ra1 bQ (i6 (w64 (a - (bShl .i64 1 u0.Size)))) ⟨w64 (a - (bShl .i64 1 u0.Size)), rfl, bP, aq.below⟩)
   · -- no
    have bR := H.2 Q
    refine k_ (sqB u aq [] [] [(4, i6 a)] ?_); intro cz bS
    exact r_ (ra1 bS (i6 a) ⟨a, rfl, bR, aq.below⟩)
  · -- false
   have bT := D.2 q
   have aY := F.reval (d := 33) (c := []) (v := .bool u0.Signed) (by kernel_rfl) (.bool false) (by rw [q])
   refine bt aY aq 7 [] [34, 35, 36, 37, 38, 39, 40] [(40, .bool false)] ?_; intro cA S
   apply E
   refine cdF S (by kernel_rfl) ?_
   refine k_ (sqB S aq [] [] [(4, i6 a)] ?_); intro cB bU
   exact r_ (ra1 bU (i6 a) ⟨a, rfl, bT, aq.below⟩)
theorem rsetraw_walk (u0 : Signal) (u1 : List Int) (u2 : Int) (ao1 : Option Addr) (cap2 : Nat) (Z : Fz) (w : World) (hs3 : SlR t8 Z ao1 cap2 u1) (hZ : Z.on w) {K : (List Int) → Prop} (hp : rsetraw_vc u0 u1 u2 K) : Calls Tryz.prog 19 #[.agg #[str u0.Name, i6 u0.Start, i6 u0.Size, .bool u0.Back, .bool u0.Signed, i6 u0.Mul, i6 u0.Div, i6 u0.Add, i6 u0.Key], .slice ao1 u1.length cap2, i6 u2] w fun e w' => ∃ (r : (List Int)) (ao1001 : Option Addr) (cap1002 : Nat) (Z' : Fz), e = .returned (.slice ao1001 r.length cap1002) ∧ K r ∧ Mem w.heap.size [] w Z [.own t8 5 ao1001 cap1002 r] Z' w' := by
 refine enter0 Tryz.func19 rfl rfl (by kernel_rfl) ?_; intro a0 N; have O := Mem.start w Z hZ
 have a3 := hp (hs3.small)
 refine sqH ?_; intro a4 P
 refine nw N O pb (e46Q u0) 46 ?_; intro n a7 cj Q F
 refine s1 Q 6 (.slice none 0 0) ?_; intro cl R
 apply P
 refine sqH ?_; intro a5 S
 refine s1 R 11 (.slice ao1 u1.length cap2) ?_; intro cm U
 obtain ⟨a6, V⟩ := a3
 refine ck U 55 #[.slice ao1 u1.length cap2] ?_
 refine (bclone_fun u1 a6 ao1 cap2 _ _ hs3 F.fz).mono ?_; rintro _ a8 ⟨h, d, a9, rfl, hm⟩; refine ⟨_, rfl, ?_⟩; intro cn W; have X := F.callZ hm
 have y : Mem w.heap.size [] w Z [.own t8 5 h d (bcloneS u1), .row n (e46Q u0) 46] a9 a8 := X
 have ba := V (y.ownSmall 0 rfl)
 refine s1 W 7 (.slice h (bcloneS u1).length d) ?_; intro co aa
 apply S
 refine s_ (sqH ?_); intro bb ab
 refine l2 aa y 13 1 0 9 (e46Q u0) rfl rfl ?_; intro cp ac
 obtain ⟨bc, ad⟩ := ba
 refine ck ac 56 #[.agg (e46Q u0).toArray] ?_
 refine (rplaces_fun u0 bc _ _ y.fz).mono ?_; rintro _ ae ⟨l, m, bd, rfl, hm⟩; refine ⟨_, rfl, ?_⟩; intro cq af; have ag := y.callZ hm
 have G : Mem w.heap.size [] w Z [.own t6 3 l m (placesS u0), .own t8 5 h d (bcloneS u1), .row n (e46Q u0) 46] bd ae := ag
 have be := ad (G.ownSmall 0 rfl)
 refine bt af G 2 [] [] [(15, i6 ((placesS u0).length : Int)), (16, i6 0)] ?_; intro ai aj
 apply ab
 apply b_
 have ak : Fr 48 [] [⟨2, [], i6 u2⟩, ⟨7, [], .slice h (bcloneS u1).length d⟩, ⟨14, [], .slice l (placesS u0).length m⟩, ⟨15, [], i6 ((placesS u0).length : Int)⟩, ⟨16, [], i6 0⟩] ai := aj.reg
 obtain ⟨o, al, am, bf⟩ := G.freeze 0 rfl
 have an : Mem w.heap.size [] w Z [.own t8 5 h d (bcloneS u1), .row n (e46Q u0) 46] o ae := am
 have ao : Fr 48 [] [⟨2, [], i6 u2⟩, ⟨7, [], .slice h (bcloneS u1).length d⟩, ⟨14, [], .slice l (placesS u0).length m⟩, ⟨15, [], i6 ((placesS u0).length : Int)⟩, ⟨16, [], i6 0⟩] ai := ak.reg
 obtain ⟨bg, bh, bi, bj⟩ := be
 refine lp (ι := Int × (List Int)) (fun s => [⟨2, [], i6 u2⟩, ⟨7, [], .slice h s.2.length d⟩, ⟨14, [], .slice l (placesS u0).length m⟩, ⟨15, [], i6 ((placesS u0).length : Int)⟩, ⟨16, [], i6 s.1⟩]) (fun s => [.own t8 5 h d s.2, .row n (e46Q u0) 46]) (fun s => o) (fun s => bg s.1 s.2) (fun s => bh s.1 s.2) ⟨0, (bcloneS u1)⟩ bi (by exact ao.region (by kernel_rfl) (by kernel_rfl)) (by exact an) ?_
 rintro ⟨b, c⟩ bk bl bm ap aq
 have B := bj b c bk
 refine sqB ap aq [] [] [(17, .bool (decide (b < ((placesS u0).length : Int))))] ?_; intro au z
 apply s_
 refine cd z (t := decide (b < ((placesS u0).length : Int))) (by kernel_rfl) (fun H => ?_) (fun H => ?_)
 · -- yes
  have bn := B.1 H
  apply k_
  have av : Fr 48 [] [⟨2, [], i6 u2⟩, ⟨7, [], .slice h c.length d⟩, ⟨14, [], .slice l (placesS u0).length m⟩, ⟨15, [], i6 ((placesS u0).length : Int)⟩, ⟨16, [], i6 b⟩] au := z.reg
  obtain ⟨bo, bp, bq⟩ := bn
  refine wp_seq_k fun KJ78 hKJ79 => ?_
  have aw : ∀ (q : List Int), bo q → ∀ a1 w1, Fr 48 [] [⟨2, [], i6 u2⟩, ⟨7, [], .slice h q.length d⟩, ⟨14, [], .slice l (placesS u0).length m⟩, ⟨15, [], i6 ((placesS u0).length : Int)⟩, ⟨16, [], i6 b⟩] a1 → Mem w.heap.size [] w Z [.own t8 5 h d q, .row n (e46Q u0) 46] o w1 → KJ78 a1 w1 := by
   rintro q br cr cs ax ay
   refine hKJ79 _ _ ?_
   have az := bq q br
   refine rgB ax ay [] [] [(16, i6 (w64 (b + 1)))] ?_; intro ct bs
   exact d_ ⟨⟨w64 (b + 1), q⟩, az.1, az.2, (bs.region (by kernel_rfl) (by kernel_rfl)).anyβ _ (by kernel_rfl), ay.kp⟩
  refine b_ (sqH ?_); intro bu aA
  refine s1 av 18 (i6 b) ?_; intro cu aB
  obtain ⟨bv, aC⟩ := bp
  refine ix_ aB bf b bv .i64 3 8 ?_; intro aD aE bw a cv bx bz bA aF
  have bB := aC a bx
  obtain rfl : bw = ([i6 a] : List Value) := bA
  refine z1 aF aq 20 bz 0 (i6 a) rfl ?_; intro cw aG
  refine bt aG aq 2 [] [] [(8, i6 b), (9, i6 a)] ?_; intro cx aH
  apply aA
  refine sqH ?_; intro bC aI
  refine bt aH aq 2 [] [] [(22, i6 (a.tmod 8))] ?_; intro cy J
  obtain ⟨bD, bE⟩ := bB
  refine u_ J (y8 (bShl .u8 1 (a.tmod 8))) (shl_run J (g := []) (k' := .i64) rfl (by kernel_rfl) (by kernel_rfl) bD rfl) ?_; intro cz aJ
  refine s1 aJ 10 (y8 (bShl .u8 1 (a.tmod 8))) ?_; intro cA aK
  apply aI
  refine sqH ?_; intro bF aL
  refine bt aK aq 2 [] [] [(24, i6 u2), (25, i6 b)] ?_; intro cB L
  obtain ⟨bG, C⟩ := bE
  refine u_ L (i6 (bShr .i64 u2 b)) (shr_run L (g := []) (k' := .i64) rfl (by kernel_rfl) (by kernel_rfl) bG rfl) ?_; intro cC aM
  refine bt aM aq 2 [] [] [(28, .bool ((bAnd .i64 (bShr .i64 u2 b) 1) == 1))] ?_; intro cD A
  apply aL
  refine cd A (t := (bAnd .i64 (bShr .i64 u2 b) 1) == 1) (by kernel_rfl) (fun M => ?_) (fun M => ?_)
  · -- yes
   have bH := C.1 M
   refine rgH ?_; intro bI aN
   refine bt A aq 3 [] [] [(29, .slice h c.length d), (31, i6 (w64 (a.tdiv 8)))] ?_; intro cE aO
   obtain ⟨bJ, aP⟩ := bH
   refine ixo aO aq 0 (T := t8) (xs := c) (w64 (a.tdiv 8)) bJ (k := .i64) (e := 5) (bytes := 1) (nog rfl _) rfl (by kernel_rfl) rfl (by kernel_rfl) (by kernel_rfl) rfl (by kernel_rfl) ?_; intro v cF bK aQ
   subst bK
   obtain ⟨i, bL, bM⟩ := gxq aP (by first | omega | (simp only [List.length_set] at *; omega))
   obtain ⟨bN, bO, bP⟩ := own_el aq 0 (T := t8) (xs := c) rfl (w64 (a.tdiv 8)).toNat bL
   obtain rfl : bN = ([y8 i] : List Value) := bO
   refine lc1 aQ 33 (y8 i) (bP 0 _ rfl) rfl ?_; intro cG aR
   refine bt aR aq 2 [] [] [(35, y8 (bOr .u8 i (bShl .u8 1 (a.tmod 8))))] ?_; intro cH aS
   obtain ⟨bQ, bR⟩ := bM
   refine ixo aS aq 0 (T := t8) (xs := c) (w64 (a.tdiv 8)) bQ (k := .i64) (e := 5) (bytes := 1) (nog rfl _) rfl (by kernel_rfl) rfl (by kernel_rfl) (by kernel_rfl) rfl (by kernel_rfl) ?_; intro bS bT bU D
   obtain rfl : v = bS := by simpa using bU
   refine so D aq 0 (T := t8) (xs := c) (w64 (a.tdiv 8)).toNat (bOr .u8 i (bShl .u8 1 (a.tmod 8))) (u := y8 (bOr .u8 i (bShl .u8 1 (a.tmod 8)))) (nog rfl _) rfl rfl (by kernel_rfl) rfl (by kernel_rfl) rfl (by kernel_rfl) (by first | omega | (simp only [List.length_set] at *; omega)) rfl ?_; intro bV aT
   have bW : Fr 48 [] [⟨2, [], i6 u2⟩, ⟨7, [], .slice (sm v) (c.set (w64 (a.tdiv 8)).toNat (bOr .u8 i (bShl .u8 1 (a.tmod 8)))).length d⟩, ⟨8, [], i6 b⟩, ⟨9, [], i6 a⟩, ⟨10, [], y8 (bShl .u8 1 (a.tmod 8))⟩, ⟨14, [], .slice l (placesS u0).length m⟩, ⟨15, [], i6 ((placesS u0).length : Int)⟩, ⟨16, [], i6 b⟩, ⟨18, [], i6 b⟩, ⟨19, [], pt aD aE⟩, ⟨20, [], i6 a⟩, ⟨22, [], i6 (a.tmod 8)⟩, ⟨23, [], y8 (bShl .u8 1 (a.tmod 8))⟩, ⟨24, [], i6 u2⟩, ⟨25, [], i6 b⟩, ⟨26, [], i6 (bShr .i64 u2 b)⟩, ⟨28, [], .bool ((bAnd .i64 (bShr .i64 u2 b) 1) == 1)⟩, ⟨29, [], .slice (sm v) (c.set (w64 (a.tdiv 8)).toNat (bOr .u8 i (bShl .u8 1 (a.tmod 8)))).length d⟩, ⟨31, [], i6 (w64 (a.tdiv 8))⟩, ⟨32, [], .pointer (some ⟨v, (w64 (a.tdiv 8)).toNat * 1, none⟩)⟩, ⟨33, [], y8 i⟩, ⟨35, [], y8 (bOr .u8 i (bShl .u8 1 (a.tmod 8)))⟩, ⟨36, [], .pointer (some ⟨v, (w64 (a.tdiv 8)).toNat * 1, none⟩)⟩] bT := by (try simp only [List.length_set] at D); (try simp only [List.length_set]); exact D.region (by kernel_rfl) (by kernel_rfl)
   have bX : Mem w.heap.size [] w Z [.own t8 5 (sm v) d (c.set (w64 (a.tdiv 8)).toNat (bOr .u8 i (bShl .u8 1 (a.tmod 8)))), .row n (e46Q u0) 46] o bV := aT
   apply aN
   exact j_ (d_ (aw (c.set (w64 (a.tdiv 8)).toNat (bOr .u8 i (bShl .u8 1 (a.tmod 8)))) bR _ _ ((bW.region (by kernel_rfl) (by kernel_rfl)).anyβ _ (by kernel_rfl)) (bX.kp)))
  · -- no
   have bY := C.2 M
   refine rgH ?_; intro bZ aU
   refine bt A aq 3 [] [] [(37, .slice h c.length d), (39, i6 (w64 (a.tdiv 8)))] ?_; intro cI aV
   obtain ⟨b0, aW⟩ := bY
   refine ixo aV aq 0 (T := t8) (xs := c) (w64 (a.tdiv 8)) b0 (k := .i64) (e := 5) (bytes := 1) (nog rfl _) rfl (by kernel_rfl) rfl (by kernel_rfl) (by kernel_rfl) rfl (by kernel_rfl) ?_; intro x cJ b1 aX
   subst b1
   obtain ⟨j, b2, b3⟩ := gxq aW (by first | omega | (simp only [List.length_set] at *; omega))
   obtain ⟨b4, b5, b7⟩ := own_el aq 0 (T := t8) (xs := c) rfl (w64 (a.tdiv 8)).toNat b2
   obtain rfl : b4 = ([y8 j] : List Value) := b5
   refine lc1 aX 41 (y8 j) (b7 0 _ rfl) rfl ?_; intro cK aY
   refine bt aY aq 3 [] [] [(44, y8 (bAnd .u8 j (w8 (255 - (bShl .u8 1 (a.tmod 8))))))] ?_; intro cL aZ
   obtain ⟨b8, b9⟩ := b3
   refine ixo aZ aq 0 (T := t8) (xs := c) (w64 (a.tdiv 8)) b8 (k := .i64) (e := 5) (bytes := 1) (nog rfl _) rfl (by kernel_rfl) rfl (by kernel_rfl) (by kernel_rfl) rfl (by kernel_rfl) ?_; intro ca cb cc E
   obtain rfl : x = ca := by simpa using cc
   refine so E aq 0 (T := t8) (xs := c) (w64 (a.tdiv 8)).toNat (bAnd .u8 j (w8 (255 - (bShl .u8 1 (a.tmod 8))))) (u := y8 (bAnd .u8 j (w8 (255 - (bShl .u8 1 (a.tmod 8)))))) (nog rfl _) rfl rfl (by kernel_rfl) rfl (by kernel_rfl) rfl (by kernel_rfl) (by first | omega | (simp only [List.length_set] at *; omega)) rfl ?_; intro ce a2
   have cf : Fr 48 [] [⟨2, [], i6 u2⟩, ⟨7, [], .slice (sm x) (c.set (w64 (a.tdiv 8)).toNat (bAnd .u8 j (w8 (255 - (bShl .u8 1 (a.tmod 8)))))).length d⟩, ⟨8, [], i6 b⟩, ⟨9, [], i6 a⟩, ⟨10, [], y8 (bShl .u8 1 (a.tmod 8))⟩, ⟨14, [], .slice l (placesS u0).length m⟩, ⟨15, [], i6 ((placesS u0).length : Int)⟩, ⟨16, [], i6 b⟩, ⟨18, [], i6 b⟩, ⟨19, [], pt aD aE⟩, ⟨20, [], i6 a⟩, ⟨22, [], i6 (a.tmod 8)⟩, ⟨23, [], y8 (bShl .u8 1 (a.tmod 8))⟩, ⟨24, [], i6 u2⟩, ⟨25, [], i6 b⟩, ⟨26, [], i6 (bShr .i64 u2 b)⟩, ⟨28, [], .bool ((bAnd .i64 (bShr .i64 u2 b) 1) == 1)⟩, ⟨37, [], .slice (sm x) (c.set (w64 (a.tdiv 8)).toNat (bAnd .u8 j (w8 (255 - (bShl .u8 1 (a.tmod 8)))))).length d⟩, ⟨39, [], i6 (w64 (a.tdiv 8))⟩, ⟨40, [], .pointer (some ⟨x, (w64 (a.tdiv 8)).toNat * 1, none⟩)⟩, ⟨41, [], y8 j⟩, ⟨44, [], y8 (bAnd .u8 j (w8 (255 - (bShl .u8 1 (a.tmod 8)))))⟩, ⟨45, [], .pointer (some ⟨x, (w64 (a.tdiv 8)).toNat * 1, none⟩)⟩] cb := by (try simp only [List.length_set] at E); (try simp only [List.length_set]); exact E.region (by kernel_rfl) (by kernel_rfl)
   have cg : Mem w.heap.size [] w Z [.own t8 5 (sm x) d (c.set (w64 (a.tdiv 8)).toNat (bAnd .u8 j (w8 (255 - (bShl .u8 1 (a.tmod 8)))))), .row n (e46Q u0) 46] o ce := a2
   apply aU
   exact j_ (d_ (aw (c.set (w64 (a.tdiv 8)).toNat (bAnd .u8 j (w8 (255 - (bShl .u8 1 (a.tmod 8)))))) b9 _ _ ((cf.region (by kernel_rfl) (by kernel_rfl)).anyβ _ (by kernel_rfl)) (cg.kp)))
 · -- no
  have ch := B.2 H
  refine x_ (y_ (y_ (z_ (t_ (sqB z aq [] [] [(6, .slice h c.length d)] ?_))))); intro cM ci
  exact r_ (ra1 ci (.slice h c.length d) ⟨c, h, d, o, rfl, ch, aq.kp⟩)
end Go.Proofs.YtdndfbamhnchfaaGreatDoor
set_option linter.unusedVariables false
set_option linter.unusedSimpArgs false
set_option linter.defProp false
set_option maxRecDepth 100000
set_option maxHeartbeats 0
namespace Go.Proofs.YtdndfbamhnchfaaGreatDoor
open Go.Sy Go.RowKit
abbrev e46Mr (X : Signal) : List Value := [str X.Name, i6 X.Start, i6 X.Size, .bool X.Back, .bool X.Signed, i6 X.Mul, i6 X.Div, i6 X.Add, i6 X.Key]
abbrev e27Mr (X : Frame) (A0 : Option Addr) (C0 : Nat) : List Value := [i6 X.ID, .bool X.Long, .bool X.Fast, .bool X.Remote, i6 X.Size, .slice A0 X.Data.length C0]
abbrev e24Mr (X : Message) (A0 : Option Addr) (C0 : Nat) : List Value := [i6 X.ID, .bool X.Long, str X.Name, i6 X.Size, i6 X.Chooser, .slice A0 X.Signals.length C0]
def risname_fun (u0 : List UInt8)  (Z : Fz) (w : World)  (hZ : Z.on w) := f_ (risname_walk u0  Z w  hZ (risname_ok u0))
def rrawof_fun (u0 : Signal) (u1 : List Int) (hpre : inD u0 u1) (ao1 : Option Addr) (cap2 : Nat) (Z : Fz) (w : World) (hs3 : SlR t8 Z ao1 cap2 u1) (hZ : Z.on w) := f_ (rrawof_walk u0 u1 ao1 cap2 Z w hs3 hZ (rrawof_ok u0 u1 hpre))
theorem rcheck_walk (u0 : Signal) (u1 : Int)  (Z : Fz) (w : World)  (hZ : Z.on w) {K : Int → Prop} (hp : rcheck_vc u0 u1 K) : Calls Tryz.prog 27 #[.agg #[str u0.Name, i6 u0.Start, i6 u0.Size, .bool u0.Back, .bool u0.Signed, i6 u0.Mul, i6 u0.Div, i6 u0.Add, i6 u0.Key], i6 u1] w fun e w' => ∃ r : Int, e = .returned (i6 r) ∧ K r ∧ Below w.heap.size w w' := by
 refine enter0 Tryz.func27 rfl rfl (by kernel_rfl) ?_; intro a0 af; have ag := Mem.start w Z hZ
 refine sqH ?_; intro bx ah
 refine nw af ag pb (e46Mr u0) 46 ?_; intro a a3 ca ai A
 refine s1 ai 4 (i6 0) ?_; intro a7 aj
 apply ah
 refine s_ (sqH ?_); intro bz ak
 refine bt aj A 2 [0] [] [(9, str u0.Name)] ?_; intro cb al
 refine fc al A (risname_fun u0.Name _ _ A.fz) ?_; intro cc ce am d
 refine s1 am 11 (.bool (!(nameS u0.Name))) ?_; intro cf l
 apply ak
 refine c_ l hp (fun _ bA => ?_) fun _ B => ?_
 ·
  refine sqB l d [] [] [(4, i6 1)] ?_; intro cg bB
  exact r_ (h_ (ra1 bB (i6 1) ⟨1, rfl, bA, d.below⟩))
 refine k_ (sqB l d [] [] [(5, .func (.func 64) #[] #[])] ?_); intro ch an
 refine s_ (sqH ?_); intro bC ao
 refine bt an d 2 [] [] [(12, .func (.func 64) #[] #[]), (13, i6 u1)] ?_; intro ci ap
 refine fc ap d (rin_fun u1 0 64 _ _ d.fz) ?_; intro cl cm aq C
 refine s1 aq 15 (.bool (!(rin u1 0 64))) ?_; intro cn ar
 refine s1 ar 16 (.bool (!(rin u1 0 64))) ?_; intro co au
 have av := au.atom ((!(rin u1 0 64)) == false) (by kernel_rfl)
 refine gp av 17 0 [] (!(rin u1 0 64)) (.func (.func 64) #[] #[]) rfl rfl ?_; intro cp aw
 refine gp aw 18 0 [] (!(rin u1 0 64)) (pt a 2) rfl rfl ?_; intro cq L
 refine gd L (i6 u0.Size) (m := 0) (cj := []) (bj := !(rin u1 0 64)) rfl rfl (by kernel_rfl) rfl (by kernel_rfl) (by kernel_rfl) (by kernel_rfl) (fun hg => ld L C 0 (g := [0]) (b := a) (off := 2) (cs := (e46Mr u0)) (ty := 46) rfl (by kernel_rfl) (by kernel_rfl) (by kernel_rfl) (by kernel_rfl) hg) ?_; intro cr ax
 refine gcl ax C (.bool (rin u0.Size 1 40)) 64 #[i6 u0.Size, i6 1, i6 40] (m := 0) (cj := []) (bj := !(rin u1 0 64)) rfl rfl (by kernel_rfl) rfl (by kernel_rfl) (by kernel_rfl) (by kernel_rfl) (fun _ => by kernel_rfl) (fun hg => rin_fun u0.Size 1 40 _ _ C.fz) ?_; intro ct cu ay n
 refine gp ay 21 0 [] (!(rin u1 0 64)) (.bool (!(rin u0.Size 1 40))) rfl rfl ?_; intro cv M
 refine u_ M (.bool ((!(rin u1 0 64)) || (!(rin u0.Size 1 40)))) (pk_or M (g := []) (m := 0) (b := !(rin u1 0 64)) (v := !(rin u0.Size 1 40)) rfl (by kernel_rfl) (by kernel_rfl) (by kernel_rfl) rfl) ?_; intro cw az
 refine s1 az 23 (.bool ((!(rin u1 0 64)) || (!(rin u0.Size 1 40)))) ?_; intro cx aA
 have aB := aA.atom (((!(rin u1 0 64)) || (!(rin u0.Size 1 40))) == false) (by kernel_rfl)
 refine gp aB 24 1 [] ((!(rin u1 0 64)) || (!(rin u0.Size 1 40))) (pt a 5) rfl rfl ?_; intro cy N
 refine gd N (i6 u0.Mul) (m := 1) (cj := []) (bj := (!(rin u1 0 64)) || (!(rin u0.Size 1 40))) rfl rfl (by kernel_rfl) rfl (by kernel_rfl) (by kernel_rfl) (by kernel_rfl) (fun hg => ld N n 0 (g := [1]) (b := a) (off := 5) (cs := (e46Mr u0)) (ty := 46) rfl (by kernel_rfl) (by kernel_rfl) (by kernel_rfl) (by kernel_rfl) hg) ?_; intro cz aC
 refine gp aC 26 1 [] ((!(rin u1 0 64)) || (!(rin u0.Size 1 40))) (.bool (u0.Mul == 0)) rfl rfl ?_; intro cA O
 refine u_ O (.bool (((!(rin u1 0 64)) || (!(rin u0.Size 1 40))) || (u0.Mul == 0))) (pk_or O (g := []) (m := 1) (b := (!(rin u1 0 64)) || (!(rin u0.Size 1 40))) (v := u0.Mul == 0) rfl (by kernel_rfl) (by kernel_rfl) (by kernel_rfl) rfl) ?_; intro cB aD
 refine s1 aD 28 (.bool (((!(rin u1 0 64)) || (!(rin u0.Size 1 40))) || (u0.Mul == 0))) ?_; intro cC aE
 have aF := aE.atom ((((!(rin u1 0 64)) || (!(rin u0.Size 1 40))) || (u0.Mul == 0)) == false) (by kernel_rfl)
 refine gp aF 29 2 [] (((!(rin u1 0 64)) || (!(rin u0.Size 1 40))) || (u0.Mul == 0)) (.func (.func 64) #[] #[]) rfl rfl ?_; intro cD aG
 refine gp aG 30 2 [] (((!(rin u1 0 64)) || (!(rin u0.Size 1 40))) || (u0.Mul == 0)) (pt a 5) rfl rfl ?_; intro cE P
 refine gd P (i6 u0.Mul) (m := 2) (cj := []) (bj := ((!(rin u1 0 64)) || (!(rin u0.Size 1 40))) || (u0.Mul == 0)) rfl rfl (by kernel_rfl) rfl (by kernel_rfl) (by kernel_rfl) (by kernel_rfl) (fun hg => ld P n 0 (g := [2]) (b := a) (off := 5) (cs := (e46Mr u0)) (ty := 46) rfl (by kernel_rfl) (by kernel_rfl) (by kernel_rfl) (by kernel_rfl) hg) ?_; intro cF aH
 refine gcl aH n (.bool (rin u0.Mul (-1000000) 1000000)) 64 #[i6 u0.Mul, i6 (-1000000), i6 1000000] (m := 2) (cj := []) (bj := ((!(rin u1 0 64)) || (!(rin u0.Size 1 40))) || (u0.Mul == 0)) rfl rfl (by kernel_rfl) rfl (by kernel_rfl) (by kernel_rfl) (by kernel_rfl) (fun _ => by kernel_rfl) (fun hg => rin_fun u0.Mul (-1000000) 1000000 _ _ n.fz) ?_; intro cG cH aI D
 refine gp aI 33 2 [] (((!(rin u1 0 64)) || (!(rin u0.Size 1 40))) || (u0.Mul == 0)) (.bool (!(rin u0.Mul (-1000000) 1000000))) rfl rfl ?_; intro cI Q
 refine u_ Q (.bool ((((!(rin u1 0 64)) || (!(rin u0.Size 1 40))) || (u0.Mul == 0)) || (!(rin u0.Mul (-1000000) 1000000)))) (pk_or Q (g := []) (m := 2) (b := ((!(rin u1 0 64)) || (!(rin u0.Size 1 40))) || (u0.Mul == 0)) (v := !(rin u0.Mul (-1000000) 1000000)) rfl (by kernel_rfl) (by kernel_rfl) (by kernel_rfl) rfl) ?_; intro cJ aJ
 refine s1 aJ 35 (.bool ((((!(rin u1 0 64)) || (!(rin u0.Size 1 40))) || (u0.Mul == 0)) || (!(rin u0.Mul (-1000000) 1000000)))) ?_; intro cK aK
 have aL := aK.atom (((((!(rin u1 0 64)) || (!(rin u0.Size 1 40))) || (u0.Mul == 0)) || (!(rin u0.Mul (-1000000) 1000000))) == false) (by kernel_rfl)
 refine gp aL 36 3 [] ((((!(rin u1 0 64)) || (!(rin u0.Size 1 40))) || (u0.Mul == 0)) || (!(rin u0.Mul (-1000000) 1000000))) (.func (.func 64) #[] #[]) rfl rfl ?_; intro cL aM
 refine gp aM 37 3 [] ((((!(rin u1 0 64)) || (!(rin u0.Size 1 40))) || (u0.Mul == 0)) || (!(rin u0.Mul (-1000000) 1000000))) (pt a 6) rfl rfl ?_; intro cM R
 refine gd R (i6 u0.Div) (m := 3) (cj := []) (bj := (((!(rin u1 0 64)) || (!(rin u0.Size 1 40))) || (u0.Mul == 0)) || (!(rin u0.Mul (-1000000) 1000000))) rfl rfl (by kernel_rfl) rfl (by kernel_rfl) (by kernel_rfl) (by kernel_rfl) (fun hg => ld R D 0 (g := [3]) (b := a) (off := 6) (cs := (e46Mr u0)) (ty := 46) rfl (by kernel_rfl) (by kernel_rfl) (by kernel_rfl) (by kernel_rfl) hg) ?_; intro cN aN
 refine gcl aN D (.bool (rin u0.Div 1 1000000)) 64 #[i6 u0.Div, i6 1, i6 1000000] (m := 3) (cj := []) (bj := (((!(rin u1 0 64)) || (!(rin u0.Size 1 40))) || (u0.Mul == 0)) || (!(rin u0.Mul (-1000000) 1000000))) rfl rfl (by kernel_rfl) rfl (by kernel_rfl) (by kernel_rfl) (by kernel_rfl) (fun _ => by kernel_rfl) (fun hg => rin_fun u0.Div 1 1000000 _ _ D.fz) ?_; intro cO cP aO E
 refine gp aO 40 3 [] ((((!(rin u1 0 64)) || (!(rin u0.Size 1 40))) || (u0.Mul == 0)) || (!(rin u0.Mul (-1000000) 1000000))) (.bool (!(rin u0.Div 1 1000000))) rfl rfl ?_; intro cQ S
 refine u_ S (.bool (((((!(rin u1 0 64)) || (!(rin u0.Size 1 40))) || (u0.Mul == 0)) || (!(rin u0.Mul (-1000000) 1000000))) || (!(rin u0.Div 1 1000000)))) (pk_or S (g := []) (m := 3) (b := (((!(rin u1 0 64)) || (!(rin u0.Size 1 40))) || (u0.Mul == 0)) || (!(rin u0.Mul (-1000000) 1000000))) (v := !(rin u0.Div 1 1000000)) rfl (by kernel_rfl) (by kernel_rfl) (by kernel_rfl) rfl) ?_; intro cR aP
 refine s1 aP 42 (.bool (((((!(rin u1 0 64)) || (!(rin u0.Size 1 40))) || (u0.Mul == 0)) || (!(rin u0.Mul (-1000000) 1000000))) || (!(rin u0.Div 1 1000000)))) ?_; intro cS aQ
 have aR := aQ.atom ((((((!(rin u1 0 64)) || (!(rin u0.Size 1 40))) || (u0.Mul == 0)) || (!(rin u0.Mul (-1000000) 1000000))) || (!(rin u0.Div 1 1000000))) == false) (by kernel_rfl)
 refine gp aR 43 4 [] (((((!(rin u1 0 64)) || (!(rin u0.Size 1 40))) || (u0.Mul == 0)) || (!(rin u0.Mul (-1000000) 1000000))) || (!(rin u0.Div 1 1000000))) (.func (.func 64) #[] #[]) rfl rfl ?_; intro cT aS
 refine gp aS 44 4 [] (((((!(rin u1 0 64)) || (!(rin u0.Size 1 40))) || (u0.Mul == 0)) || (!(rin u0.Mul (-1000000) 1000000))) || (!(rin u0.Div 1 1000000))) (pt a 7) rfl rfl ?_; intro cU U
 refine gd U (i6 u0.Add) (m := 4) (cj := []) (bj := ((((!(rin u1 0 64)) || (!(rin u0.Size 1 40))) || (u0.Mul == 0)) || (!(rin u0.Mul (-1000000) 1000000))) || (!(rin u0.Div 1 1000000))) rfl rfl (by kernel_rfl) rfl (by kernel_rfl) (by kernel_rfl) (by kernel_rfl) (fun hg => ld U E 0 (g := [4]) (b := a) (off := 7) (cs := (e46Mr u0)) (ty := 46) rfl (by kernel_rfl) (by kernel_rfl) (by kernel_rfl) (by kernel_rfl) hg) ?_; intro cV aT
 refine gcl aT E (.bool (rin u0.Add (-1000000) 1000000)) 64 #[i6 u0.Add, i6 (-1000000), i6 1000000] (m := 4) (cj := []) (bj := ((((!(rin u1 0 64)) || (!(rin u0.Size 1 40))) || (u0.Mul == 0)) || (!(rin u0.Mul (-1000000) 1000000))) || (!(rin u0.Div 1 1000000))) rfl rfl (by kernel_rfl) rfl (by kernel_rfl) (by kernel_rfl) (by kernel_rfl) (fun _ => by kernel_rfl) (fun hg => rin_fun u0.Add (-1000000) 1000000 _ _ E.fz) ?_; intro cW cX aU F
 refine gp aU 47 4 [] (((((!(rin u1 0 64)) || (!(rin u0.Size 1 40))) || (u0.Mul == 0)) || (!(rin u0.Mul (-1000000) 1000000))) || (!(rin u0.Div 1 1000000))) (.bool (!(rin u0.Add (-1000000) 1000000))) rfl rfl ?_; intro cY V
 refine u_ V (.bool ((((((!(rin u1 0 64)) || (!(rin u0.Size 1 40))) || (u0.Mul == 0)) || (!(rin u0.Mul (-1000000) 1000000))) || (!(rin u0.Div 1 1000000))) || (!(rin u0.Add (-1000000) 1000000)))) (pk_or V (g := []) (m := 4) (b := ((((!(rin u1 0 64)) || (!(rin u0.Size 1 40))) || (u0.Mul == 0)) || (!(rin u0.Mul (-1000000) 1000000))) || (!(rin u0.Div 1 1000000))) (v := !(rin u0.Add (-1000000) 1000000)) rfl (by kernel_rfl) (by kernel_rfl) (by kernel_rfl) rfl) ?_; intro cZ aV
 refine s1 aV 49 (.bool ((((((!(rin u1 0 64)) || (!(rin u0.Size 1 40))) || (u0.Mul == 0)) || (!(rin u0.Mul (-1000000) 1000000))) || (!(rin u0.Div 1 1000000))) || (!(rin u0.Add (-1000000) 1000000)))) ?_; intro c0 aW
 have aX := aW.atom (((((((!(rin u1 0 64)) || (!(rin u0.Size 1 40))) || (u0.Mul == 0)) || (!(rin u0.Mul (-1000000) 1000000))) || (!(rin u0.Div 1 1000000))) || (!(rin u0.Add (-1000000) 1000000))) == false) (by kernel_rfl)
 refine gp aX 50 5 [] ((((((!(rin u1 0 64)) || (!(rin u0.Size 1 40))) || (u0.Mul == 0)) || (!(rin u0.Mul (-1000000) 1000000))) || (!(rin u0.Div 1 1000000))) || (!(rin u0.Add (-1000000) 1000000))) (.func (.func 64) #[] #[]) rfl rfl ?_; intro c1 aY
 refine gp aY 51 5 [] ((((((!(rin u1 0 64)) || (!(rin u0.Size 1 40))) || (u0.Mul == 0)) || (!(rin u0.Mul (-1000000) 1000000))) || (!(rin u0.Div 1 1000000))) || (!(rin u0.Add (-1000000) 1000000))) (pt a 8) rfl rfl ?_; intro c2 W
 refine gd W (i6 u0.Key) (m := 5) (cj := []) (bj := (((((!(rin u1 0 64)) || (!(rin u0.Size 1 40))) || (u0.Mul == 0)) || (!(rin u0.Mul (-1000000) 1000000))) || (!(rin u0.Div 1 1000000))) || (!(rin u0.Add (-1000000) 1000000))) rfl rfl (by kernel_rfl) rfl (by kernel_rfl) (by kernel_rfl) (by kernel_rfl) (fun hg => ld W F 0 (g := [5]) (b := a) (off := 8) (cs := (e46Mr u0)) (ty := 46) rfl (by kernel_rfl) (by kernel_rfl) (by kernel_rfl) (by kernel_rfl) hg) ?_; intro c3 aZ
 refine gcl aZ F (.bool (rin u0.Key (-1) 255)) 64 #[i6 u0.Key, i6 (-1), i6 255] (m := 5) (cj := []) (bj := (((((!(rin u1 0 64)) || (!(rin u0.Size 1 40))) || (u0.Mul == 0)) || (!(rin u0.Mul (-1000000) 1000000))) || (!(rin u0.Div 1 1000000))) || (!(rin u0.Add (-1000000) 1000000))) rfl rfl (by kernel_rfl) rfl (by kernel_rfl) (by kernel_rfl) (by kernel_rfl) (fun _ => by kernel_rfl) (fun hg => rin_fun u0.Key (-1) 255 _ _ F.fz) ?_; intro c4 c5 a1 h
 refine gp a1 54 5 [] ((((((!(rin u1 0 64)) || (!(rin u0.Size 1 40))) || (u0.Mul == 0)) || (!(rin u0.Mul (-1000000) 1000000))) || (!(rin u0.Div 1 1000000))) || (!(rin u0.Add (-1000000) 1000000))) (.bool (!(rin u0.Key (-1) 255))) rfl rfl ?_; intro c6 X
 refine u_ X (.bool (((((((!(rin u1 0 64)) || (!(rin u0.Size 1 40))) || (u0.Mul == 0)) || (!(rin u0.Mul (-1000000) 1000000))) || (!(rin u0.Div 1 1000000))) || (!(rin u0.Add (-1000000) 1000000))) || (!(rin u0.Key (-1) 255)))) (pk_or X (g := []) (m := 5) (b := (((((!(rin u1 0 64)) || (!(rin u0.Size 1 40))) || (u0.Mul == 0)) || (!(rin u0.Mul (-1000000) 1000000))) || (!(rin u0.Div 1 1000000))) || (!(rin u0.Add (-1000000) 1000000))) (v := !(rin u0.Key (-1) 255)) rfl (by kernel_rfl) (by kernel_rfl) (by kernel_rfl) rfl) ?_; intro a2 o
 apply ao
 refine c_ o B (fun _ bD => ?_) fun _ G => ?_
 ·
  have a4 : Fr 76 [] [] a2 := o.reg
  refine sqB a4 h [] [] [(4, i6 3)] ?_; intro c7 bE
  exact r_ (h_ (ra1 bE (i6 3) ⟨3, rfl, bD, h.below⟩))
 refine k_ (s_ ?_)
 have a5 : Fr 76 [] [⟨1, [], i6 u1⟩, ⟨2, [], pt a 0⟩, ⟨5, [], .func (.func 64) #[] #[]⟩] a2 := o.reg
 refine sqH ?_; intro bF a6
 refine bt a5 h 6 [0] [] [(56, .func (.func 64) #[] #[]), (58, i6 u0.Start), (61, i6 (w64 ((w64 (8 * u1)) - 1)))] ?_; intro c8 a8
 refine fc a8 h (rin_fun u0.Start 0 (w64 ((w64 (8 * u1)) - 1)) _ _ h.fz) ?_; intro c9 da a9 i
 refine s1 a9 63 (.bool (!(rin u0.Start 0 (w64 ((w64 (8 * u1)) - 1))))) ?_; intro db p
 apply a6
 refine c_ p G (fun _ bG => ?_) fun _ bI => ?_
 ·
  refine sqB p i [] [] [(4, i6 7)] ?_; intro dc bH
  exact r_ (h_ (ra1 bH (i6 7) ⟨7, rfl, bG, i.below⟩))
 refine k_ (s_ (sqH ?_)); intro bJ ba
 refine l2 p i 64 0 0 9 (e46Mr u0) rfl rfl ?_; intro dd bb
 obtain ⟨bK, bc⟩ := bI
 refine ck bb 56 #[.agg (e46Mr u0).toArray] ?_
 refine (rplaces_fun u0 bK _ _ i.fz).mono ?_; rintro _ bd ⟨q, u, bL, rfl, hm⟩; refine ⟨_, rfl, ?_⟩; intro de be; have bf := i.callZ hm
 have ab : Mem w.heap.size [] w Z [.own t6 3 q u (placesS u0), .row a (e46Mr u0) 46] bL bd := bf
 have bN := bc (ab.ownSmall 0 rfl)
 refine bt be ab 2 [] [] [(66, i6 ((placesS u0).length : Int)), (67, i6 0)] ?_; intro bg bh
 apply ba
 apply b_
 have bi : Fr 76 [] [⟨1, [], i6 u1⟩, ⟨65, [], .slice q (placesS u0).length u⟩, ⟨66, [], i6 ((placesS u0).length : Int)⟩, ⟨67, [], i6 0⟩] bg := bh.reg
 obtain ⟨ac, bO, bk, bP⟩ := ab.freeze 0 rfl
 have bl : Mem w.heap.size [] w Z [.row a (e46Mr u0) 46] ac bd := bk
 have bm : Fr 76 [] [⟨1, [], i6 u1⟩, ⟨65, [], .slice q (placesS u0).length u⟩, ⟨66, [], i6 ((placesS u0).length : Int)⟩, ⟨67, [], i6 0⟩] bg := bi.reg
 obtain ⟨bQ, bR, bS, bT⟩ := bN
 refine lp (ι := Int) (fun s => [⟨1, [], i6 u1⟩, ⟨65, [], .slice q (placesS u0).length u⟩, ⟨66, [], i6 ((placesS u0).length : Int)⟩, ⟨67, [], i6 s⟩]) (fun s => [.row a (e46Mr u0) 46]) (fun s => ac) (fun s => bQ s) (fun s => bR s) 0 bS (by exact bm.reg) (by exact bl) ?_
 rintro f bU bV bW bn bo
 have H := bT f bU
 refine sqB bn bo [] [] [(68, .bool (decide (f < ((placesS u0).length : Int))))] ?_; intro df x
 refine s_ (c_ x H (fun _ bX => ?_) fun _ b8 => ?_)
 ·
  refine k_ (s_ (b_ (sqH ?_))); intro bY bq
  obtain ⟨bZ, br⟩ := bX
  refine ix_ x bP f bZ .i64 3 8 ?_; intro dg dh b0 j di b1 b3 b4 bs
  have I := br j b1
  obtain rfl : b0 = ([i6 j] : List Value) := b4
  refine z1 bs bo 70 b3 0 (i6 j) rfl ?_; intro dj bu
  refine s1 bu 7 (i6 j) ?_; intro dk bv
  apply bq
  refine sqB bv bo [] [] [(74, .bool (decide (j ≥ (w64 (8 * u1)))))] ?_; intro dl y
  refine c_ y I (fun _ b5 => ?_) fun _ bw => ?_
  ·
   refine sqB y bo [] [] [(4, i6 7)] ?_; intro dm b6
   exact r_ (i_ (h_ (h_ (i_ (h_ (ra1 b6 (i6 7) ⟨7, rfl, b5, bo.below⟩))))))
  refine l_ (j_ (t_ (rgB y bo [] [] [(67, i6 (w64 (f + 1)))] ?_))); intro dn b7
  exact d_ ⟨w64 (f + 1), bw.1, bw.2, (b7.reg).anyβ _ (by kernel_rfl), bo.kp⟩
 refine x_ (y_ (y_ (z_ (t_ (sqB x bo [] [] [(4, i6 0)] ?_))))); intro dp b9
 exact r_ (ra1 b9 (i6 0) ⟨0, rfl, b8, bo.below⟩)
theorem rover_walk (u0 : Signal) (u1 : Signal)  (Z : Fz) (w : World)  (hZ : Z.on w) {K : Bool → Prop} (hp : rover_vc u0 u1 K) : Calls Tryz.prog 28 #[.agg #[str u0.Name, i6 u0.Start, i6 u0.Size, .bool u0.Back, .bool u0.Signed, i6 u0.Mul, i6 u0.Div, i6 u0.Add, i6 u0.Key], .agg #[str u1.Name, i6 u1.Start, i6 u1.Size, .bool u1.Back, .bool u1.Signed, i6 u1.Mul, i6 u1.Div, i6 u1.Add, i6 u1.Key]] w fun e w' => ∃ r : Bool, e = .returned (.bool r) ∧ K r ∧ Below w.heap.size w w' := by
 refine enter0 Tryz.func28 rfl rfl (by kernel_rfl) ?_; intro a0 q; have s := Mem.start w Z hZ
 refine sqH ?_; intro W t
 refine nw q s pb (e46Mr u0) 46 ?_; intro f a3 au u v
 refine nw u v pb (e46Mr u1) 46 ?_; intro g a8 av x i
 refine s1 x 4 (.bool false) ?_; intro aw y
 apply t
 refine sqH ?_; intro X z
 refine l2 y i 6 0 0 9 (e46Mr u1) rfl rfl ?_; intro ax A
 obtain ⟨Y, B⟩ := hp
 refine ck A 56 #[.agg (e46Mr u1).toArray] ?_
 refine (rplaces_fun u1 Y _ _ i.fz).mono ?_; rintro _ aa ⟨b, c, C, rfl, hm⟩; refine ⟨_, rfl, ?_⟩; intro ay D; have E := i.callZ hm
 have l : Mem w.heap.size [] w Z [.own t6 3 b c (placesS u1), .row g (e46Mr u1) 46, .row f (e46Mr u0) 46] C aa := E
 have ac := B (l.ownSmall 0 rfl)
 refine nw D l pb [.slice none 0 0] 59 ?_; intro d az aA m F
 refine sx m F 0 [.slice b (placesS u1).length c] 0 ?_; intro ad G
 have j : Mem w.heap.size [] w Z [.row d [.slice b (placesS u1).length c] 59, .own t6 3 b c (placesS u1), .row g (e46Mr u1) 46, .row f (e46Mr u0) 46] C ad := G
 apply z
 refine sqH ?_; intro ae H
 refine l2 m j 8 3 0 9 (e46Mr u0) rfl rfl ?_; intro aB I
 obtain ⟨af, J⟩ := ac
 refine ck I 56 #[.agg (e46Mr u0).toArray] ?_
 refine (rplaces_fun u0 af _ _ j.fz).mono ?_; rintro _ k ⟨L, M, ag, rfl, hm⟩; refine ⟨_, rfl, ?_⟩; intro aC N; have O := j.callZ hm
 have P : Mem w.heap.size [] w Z [.own t6 3 L M (placesS u0), .row d [.slice b (placesS u1).length c] 59, .own t6 3 b c (placesS u1), .row g (e46Mr u1) 46, .row f (e46Mr u0) 46] ag k := O
 have ai := J (P.ownSmall 0 rfl)
 refine s1 N 10 (.func (.func 66) #[] #[pt d 0]) ?_; intro aD Q
 obtain ⟨aj, ak, R, h⟩ := P.freeze 0 rfl
 have al : Mem w.heap.size [] w Z [.row d [.slice b (placesS u1).length c] 59, .own t6 3 b c (placesS u1), .row g (e46Mr u1) 46, .row f (e46Mr u0) 46] aj k := R
 obtain ⟨am, S, T, n⟩ := al.freeze 1 rfl
 replace h := h.mono S
 have an : Mem w.heap.size [] w Z [.row d [.slice b (placesS u1).length c] 59, .row g (e46Mr u1) 46, .row f (e46Mr u0) 46] am k := T
 obtain ⟨ao, o, U, ap⟩ := an.freezeRow 0 rfl
 replace h := h.mono o
 replace n := n.mono o
 have p : Mem w.heap.size [] w Z [.row g (e46Mr u1) 46, .row f (e46Mr u0) 46] ao k := U
 refine fc Q p (icontf_fun (placesS u0) (fun x0 => rov1 x0 (placesS u1)) L M 66 #[pt d 0] _ _ h (fun Z1 w1 h1 h2 x0 => rov1_fun x0 (placesS u1) d 0 b c Z1 w1 (ap.mono h1) (SlR.mono n h1) h2) (fun _ _ => by kernel_rfl) p.fz) ?_; intro aE aF V aq
 refine s1 V 4 (.bool (icontfS (placesS u0) (fun x0 => rov1 x0 (placesS u1)))) ?_; intro aG ar
 apply H
 exact r_ (ra1 ar (.bool (icontfS (placesS u0) (fun x0 => rov1 x0 (placesS u1)))) ⟨(icontfS (placesS u0) (fun x0 => rov1 x0 (placesS u1))), rfl, ai, aq.below⟩)
theorem rsizes_walk   (Z : Fz) (w : World)  (hZ : Z.on w) {K : (List Int) → Prop} (hp : rsizes_vc  K) : Calls Tryz.prog 30 #[] w fun e w' => ∃ (r : (List Int)) (ao1001 : Option Addr) (cap1002 : Nat) (Z' : Fz), e = .returned (.slice ao1001 r.length cap1002) ∧ K r ∧ Mem w.heap.size [] w Z [.own t6 3 ao1001 cap1002 r] Z' w' := by
 refine enter0 Tryz.func30 rfl rfl (by kernel_rfl) ?_; intro n d; have c := Mem.start w Z hZ
 refine sqB d c [] [] [] ?_; intro p f
 refine sqH ?_; intro j g
 refine nw f c (fun b => .slice (sm b) 16 16) [i6 0, i6 1, i6 2, i6 3, i6 4, i6 5, i6 6, i6 7, i6 8, i6 12, i6 16, i6 20, i6 24, i6 32, i6 48, i6 64] 3 ?_; intro a q k h i
 refine s1 h 0 (.slice (sm a) 16 16) ?_; intro s l
 apply g
 apply r_
 have m : Mem w.heap.size [] w Z [.own t6 3 (sm a) 16 ([0, 1, 2, 3, 4, 5, 6, 7, 8, 12, 16, 20, 24, 32, 48, 64] : List Int)] Z k := i.rowOwn (T := t6) (xs := ([0, 1, 2, 3, 4, 5, 6, 7, 8, 12, 16, 20, 24, 32, 48, 64] : List Int)) 0 rfl (by decide) (by show 16 ≤ lim; decide) ((RepAll.one (T := t6) (x := 0) rfl).append ((RepAll.one (T := t6) (x := 1) rfl).append ((RepAll.one (T := t6) (x := 2) rfl).append ((RepAll.one (T := t6) (x := 3) rfl).append ((RepAll.one (T := t6) (x := 4) rfl).append ((RepAll.one (T := t6) (x := 5) rfl).append ((RepAll.one (T := t6) (x := 6) rfl).append ((RepAll.one (T := t6) (x := 7) rfl).append ((RepAll.one (T := t6) (x := 8) rfl).append ((RepAll.one (T := t6) (x := 12) rfl).append ((RepAll.one (T := t6) (x := 16) rfl).append ((RepAll.one (T := t6) (x := 20) rfl).append ((RepAll.one (T := t6) (x := 24) rfl).append ((RepAll.one (T := t6) (x := 32) rfl).append ((RepAll.one (T := t6) (x := 48) rfl).append (RepAll.one (T := t6) (x := 64) rfl))))))))))))))))
 exact ra1 l (.slice (sm a) ([0, 1, 2, 3, 4, 5, 6, 7, 8, 12, 16, 20, 24, 32, 48, 64] : List Int).length 16) ⟨([0, 1, 2, 3, 4, 5, 6, 7, 8, 12, 16, 20, 24, 32, 48, 64] : List Int), (sm a), 16, Z, rfl, hp, m.kp⟩
def rsizes_fun   (Z : Fz) (w : World)  (hZ : Z.on w) := fc_ (rsizes_walk   Z w  hZ (rsizes_ok ))
theorem rcheckfr_walk (u0 : Frame) (ao1 : Option Addr) (cap2 : Nat) (Z : Fz) (w : World) (hs3 : SlR t8 Z ao1 cap2 u0.Data) (hZ : Z.on w) {K : Int → Prop} (hp : rcheckfr_vc u0 K) : Calls Tryz.prog 8 #[.agg #[i6 u0.ID, .bool u0.Long, .bool u0.Fast, .bool u0.Remote, i6 u0.Size, .slice ao1 u0.Data.length cap2]] w fun e w' => ∃ r : Int, e = .returned (i6 r) ∧ K r ∧ Below w.heap.size w w' := by
 refine enter0 Tryz.func8 rfl rfl (by kernel_rfl) ?_; intro a0 ac; have ad := Mem.start w Z hZ
 have v := hp (hs3.small)
 refine sqH ?_; intro aL ae
 refine nw ac ad pb (e27Mr u0 ao1 cap2) 27 ?_; intro c a7 bq af a
 refine s1 af 2 (i6 0) ?_; intro br ag
 apply ae
 refine sqB ag a [] [] [(3, i6 2047)] ?_; intro bs ah
 refine s_ (sqB ah a [0] [] [(5, .bool u0.Long)] ?_); intro bt g
 refine c_ g v (fun _ x => ?_) fun _ C => ?_
 ·
  refine rgB g a [] [] [(3, i6 536870911)] ?_; intro bu ai
  refine t_ (s_ (sqB ai a [0, 0] [] [(14, .bool ((decide (u0.ID < 0)) || (decide (u0.ID > 536870911))))] ?_)); intro bv h
  refine c_ h x (fun _ aM => ?_) fun _ y => ?_
  ·
   refine sqB h a [] [] [(2, i6 3)] ?_; intro bw aN
   exact r_ (h_ (ra1 aN (i6 3) ⟨3, rfl, aM, a.below⟩))
  refine k_ (s_ (sqB h a [0, 0, 0] [] [(26, .bool (u0.Remote && (u0.Fast || ((u0.Data.length : Int) != 0))))] ?_)); intro bx i
  refine c_ i y (fun _ aO => ?_) fun _ z => ?_
  ·
   refine sqB i a [] [] [(2, i6 4)] ?_; intro bz aP
   exact r_ (h_ (ra1 aP (i6 4) ⟨4, rfl, aO, a.below⟩))
  refine k_ (s_ (sqB i a [0, 0, 0, 0] [] [(44, .bool (((decide (u0.Size < 0)) || (decide (u0.Size > 8))) || ((decide (u0.Size > 0)) && (!u0.Remote))))] ?_)); intro bA j
  refine c_ j z (fun _ aQ => ?_) fun _ A => ?_
  ·
   refine sqB j a [] [] [(2, i6 3)] ?_; intro bB aR
   exact r_ (h_ (ra1 aR (i6 3) ⟨3, rfl, aQ, a.below⟩))
  refine k_ (s_ (sqB j a [0, 0, 0] [] [(59, .bool ((decide ((u0.Data.length : Int) > 64)) || ((decide ((u0.Data.length : Int) > 8)) && (!u0.Fast))))] ?_)); intro aS k
  refine c_ k A (fun _ aT => ?_) fun _ B => ?_
  ·
   refine sqB k a [] [] [(2, i6 2)] ?_; intro bC aU
   exact r_ (h_ (ra1 aU (i6 2) ⟨2, rfl, aT, a.below⟩))
  refine k_ (s_ ?_)
  have aj : Fr 66 [] [⟨1, [], pt c 0⟩] aS := k.reg
  refine wp_seq (rgS mixed a [(1, true), (2, true), (3, true), (0, false), (4, false), (5, true)] [] [0] [.row c (e27Mr u0 ao1 cap2) 27] ?_)
  intro aV ak bD N
  have d := Fz.le.refl Z
  refine cS aj 3 [0] [] [(63, i6 (u0.Data.length : Int))] ?_; intro bE al
  refine eS rfl ?_; intro aW am
  refine ck al 30 #[] ?_
  refine (rsizes_fun  _ _ N.fz).mono ?_; rintro _ an ⟨ao, ap, aX, rfl, hm⟩; refine ⟨_, rfl, ?_⟩; intro bF aq; have ar := N.callZ hm; have O := hm.ext.le
  replace d := d.mono O
  have au : Mem w.heap.size [] w Z [.own t6 3 ao ap rsizes, .row c (e27Mr u0 ao1 cap2) 27] aX an := ar
  refine nl (qnI (am _ _ (au.cst d [1]) ?_))
  refine eS rfl ?_; intro aY av
  obtain ⟨aZ, P, aw, a1⟩ := au.freeze 0 rfl
  replace d := d.mono P
  have Q : Mem w.heap.size [] w Z [.row c (e27Mr u0 ao1 cap2) 27] aZ an := aw
  refine fc aq Q (scontains_fun rsizes (u0.Data.length : Int) ao ap _ _ a1 Q.fz) ?_; intro bG bH ax l
  refine nl (qnI (av _ _ (l.cst d [0]) ?_))
  refine cS ax 1 [] [] [(65, .bool (!(scontainsS rsizes (u0.Data.length : Int))))] ?_; intro bI m
  refine nS (ak _ _ ?_)
  refine t_ (c_ m B (fun _ a2 => ?_) fun _ a4 => ?_)
  ·
   refine sqB m l [] [] [(2, i6 4)] ?_; intro bJ a3
   exact r_ (h_ (ra1 a3 (i6 4) ⟨4, rfl, a2, l.below⟩))
  refine k_ (sqB m l [] [] [(2, i6 0)] ?_); intro bK a5
  exact r_ (ra1 a5 (i6 0) ⟨0, rfl, a4, l.below⟩)
 refine k_ (s_ (sqB g a [0, 0] [] [(14, .bool ((decide (u0.ID < 0)) || (decide (u0.ID > 2047))))] ?_)); intro bL n
 refine c_ n C (fun _ a6 => ?_) fun _ D => ?_
 ·
  refine sqB n a [] [] [(2, i6 3)] ?_; intro bM a8
  exact r_ (h_ (ra1 a8 (i6 3) ⟨3, rfl, a6, a.below⟩))
 refine k_ (s_ (sqB n a [0, 0, 0] [] [(26, .bool (u0.Remote && (u0.Fast || ((u0.Data.length : Int) != 0))))] ?_)); intro bN o
 refine c_ o D (fun _ a9 => ?_) fun _ E => ?_
 ·
  refine sqB o a [] [] [(2, i6 4)] ?_; intro bO ba
  exact r_ (h_ (ra1 ba (i6 4) ⟨4, rfl, a9, a.below⟩))
 refine k_ (s_ (sqB o a [0, 0, 0, 0] [] [(44, .bool (((decide (u0.Size < 0)) || (decide (u0.Size > 8))) || ((decide (u0.Size > 0)) && (!u0.Remote))))] ?_)); intro bP p
 refine c_ p E (fun _ bb => ?_) fun _ F => ?_
 ·
  refine sqB p a [] [] [(2, i6 3)] ?_; intro bQ bc
  exact r_ (h_ (ra1 bc (i6 3) ⟨3, rfl, bb, a.below⟩))
 refine k_ (s_ (sqB p a [0, 0, 0] [] [(59, .bool ((decide ((u0.Data.length : Int) > 64)) || ((decide ((u0.Data.length : Int) > 8)) && (!u0.Fast))))] ?_)); intro bd q
 refine c_ q F (fun _ be => ?_) fun _ G => ?_
 ·
  refine sqB q a [] [] [(2, i6 2)] ?_; intro bR bf
  exact r_ (h_ (ra1 bf (i6 2) ⟨2, rfl, be, a.below⟩))
 refine k_ (s_ ?_)
 have ay : Fr 66 [] [⟨1, [], pt c 0⟩] bd := q.reg
 refine wp_seq (rgS mixed a [(1, true), (2, true), (3, true), (0, false), (4, false), (5, true)] [] [0] [.row c (e27Mr u0 ao1 cap2) 27] ?_)
 intro bg az bS W
 have f := Fz.le.refl Z
 refine cS ay 3 [0] [] [(63, i6 (u0.Data.length : Int))] ?_; intro bT aA
 refine eS rfl ?_; intro bh aB
 refine ck aA 30 #[] ?_
 refine (rsizes_fun  _ _ W.fz).mono ?_; rintro _ aC ⟨aD, aE, bi, rfl, hm⟩; refine ⟨_, rfl, ?_⟩; intro bU aF; have aG := W.callZ hm; have X := hm.ext.le
 replace f := f.mono X
 have aH : Mem w.heap.size [] w Z [.own t6 3 aD aE rsizes, .row c (e27Mr u0 ao1 cap2) 27] bi aC := aG
 refine nl (qnI (aB _ _ (aH.cst f [1]) ?_))
 refine eS rfl ?_; intro bj aI
 obtain ⟨bk, Y, aJ, bl⟩ := aH.freeze 0 rfl
 replace f := f.mono Y
 have aa : Mem w.heap.size [] w Z [.row c (e27Mr u0 ao1 cap2) 27] bk aC := aJ
 refine fc aF aa (scontains_fun rsizes (u0.Data.length : Int) aD aE _ _ bl aa.fz) ?_; intro bV bW aK s
 refine nl (qnI (aI _ _ (s.cst f [0]) ?_))
 refine cS aK 1 [] [] [(65, .bool (!(scontainsS rsizes (u0.Data.length : Int))))] ?_; intro bX u
 refine nS (az _ _ ?_)
 refine t_ (c_ u G (fun _ bm => ?_) fun _ bo => ?_)
 ·
  refine sqB u s [] [] [(2, i6 4)] ?_; intro bY bn
  exact r_ (h_ (ra1 bn (i6 4) ⟨4, rfl, bm, s.below⟩))
 refine k_ (sqB u s [] [] [(2, i6 0)] ?_); intro bZ bp
 exact r_ (ra1 bp (i6 0) ⟨0, rfl, bo, s.below⟩)
theorem rthere_walk (u0 : Message) (u1 : Signal) (u2 : List Int) (ao1 : Option Addr) (cap2 : Nat) (ao4 : Option Addr) (cap5 : Nat) (Z : Fz) (w : World) (hs3 : SlR tySignal Z ao1 cap2 u0.Signals) (hs6 : SlR t8 Z ao4 cap5 u2) (hZ : Z.on w) {K : Bool → Prop} (hp : rthere_vc u0 u1 u2 K) : Calls Tryz.prog 20 #[.agg #[i6 u0.ID, .bool u0.Long, str u0.Name, i6 u0.Size, i6 u0.Chooser, .slice ao1 u0.Signals.length cap2], .agg #[str u1.Name, i6 u1.Start, i6 u1.Size, .bool u1.Back, .bool u1.Signed, i6 u1.Mul, i6 u1.Div, i6 u1.Add, i6 u1.Key], .slice ao4 u2.length cap5] w fun e w' => ∃ r : Bool, e = .returned (.bool r) ∧ K r ∧ Below w.heap.size w w' := by
 refine enter0 Tryz.func20 rfl rfl (by kernel_rfl) ?_; intro a0 F; have G := Mem.start w Z hZ
 have j := hp (hs3.small) (hs6.small)
 refine sqH ?_; intro aq I
 refine nw F G pb (e24Mr u0 ao1 cap2) 24 ?_; intro h aK aL J L
 refine nw J L pb (e46Mr u1) 46 ?_; intro f aM aN M l
 refine s1 M 6 (.bool false) ?_; intro A N
 apply I
 have n : Fr 23 [] [⟨2, [], .slice ao4 u2.length cap5⟩, ⟨3, [], pt h 0⟩, ⟨4, [], pt f 0⟩] A := N.reg
 refine e_ j (fun i ar => ?_) fun i ax => ?_
 ·
  have O : Fr 23 [] [⟨2, [], .slice ao4 u2.length cap5⟩, ⟨3, [], pt h 0⟩, ⟨4, [], pt f 0⟩] A := n.reg
  refine sqQH mixed (by kernel_rfl) l ?_; intro au P
  refine q1 O 7 (pt f 8) ?_; intro aO B
  refine ql_ B 0 8 (i6 u1.Key) rfl rfl ?_; intro aP Q
  refine q1 Q 9 (.bool (u1.Key == (-1))) ?_; intro aQ R
  have S := R.reval (d := 9) (c := []) (v := .bool (u1.Key == (-1))) (by kernel_rfl) (.bool true) (by rw [i])
  refine q1 S 10 (.bool true) ?_; intro aR U
  refine qk_ U true ?_; intro aS V
  refine qk_ V true ?_; intro aT W
  refine qk_ W true ?_; intro aU X
  refine qk_ X true ?_; intro aV Y
  refine qk_ Y true ?_; intro aW aa
  refine qk_ aa true ?_; intro aX ab
  refine qk_ ab true ?_; intro aY ac
  refine qk_ ac true ?_; intro aZ ad
  refine qk_ ad true ?_; intro a1 ae
  refine qk_ ae true ?_; intro a2 af
  refine qk_ af true ?_; intro a3 ag
  refine q1 ag 22 (.bool true) ?_; intro a4 ah
  refine q1 ah 6 (.bool true) ?_; intro a5 av
  refine qnl (P _ ?_); intro a6 aw
  exact r_ (ra1 av (.bool true) ⟨true, rfl, ar, aw.below⟩)
 have ai : Fr 23 [] [⟨2, [], .slice ao4 u2.length cap5⟩, ⟨3, [], pt h 0⟩, ⟨4, [], pt f 0⟩] A := n.reg
 refine sqQH mixed (by kernel_rfl) l ?_; intro ay aj
 refine q1 ai 7 (pt f 8) ?_; intro a7 C
 refine ql_ C 0 8 (i6 u1.Key) rfl rfl ?_; intro a8 ak
 refine q1 ak 9 (.bool (u1.Key == (-1))) ?_; intro a9 al
 have am := al.reval (d := 9) (c := []) (v := .bool (u1.Key == (-1))) (by kernel_rfl) (.bool false) (by rw [i])
 refine q1 am 10 (.bool false) ?_; intro ba o
 refine qg_ o false (pt h 5) ?_; intro bb p
 refine qst p (.slice ao1 u0.Signals.length cap2) (wK p false) rfl (by kernel_rfl) (fun v89 hC => ld p hC 1 (g := []) (b := h) (off := 5) (cs := (e24Mr u0 ao1 cap2)) (ty := 24) rfl (by kernel_rfl) (by kernel_rfl) (by kernel_rfl) (by kernel_rfl) rfl) ?_; intro bc q
 refine qg_ q false (pt h 4) ?_; intro bd s
 refine qst s (i6 u0.Chooser) (wK s false) rfl (by kernel_rfl) (fun v95 hC => ld s hC 1 (g := []) (b := h) (off := 4) (cs := (e24Mr u0 ao1 cap2)) (ty := 24) rfl (by kernel_rfl) (by kernel_rfl) (by kernel_rfl) (by kernel_rfl) rfl) ?_; intro be D
 obtain ⟨az, an⟩ := ax
 refine qix D (T := tySignal) (xs := u0.Signals) hs3 u0.Chooser az (k := .i64) (e := 46) (bytes := 72) (wK D false) rfl (by kernel_rfl) rfl (by kernel_rfl) (by kernel_rfl) (by kernel_rfl) ?_; intro bf bg aA a bh aB aC aD t
 have aE := an a aB
 obtain rfl : aA = ((e46Mr a) : List Value) := aD
 refine qst t (.agg (e46Mr a).toArray) (wK t false) rfl (by kernel_rfl) (fun v111 hC => lza t hC.fz aC 0 (g := []) (m := 9) (vs := (e46Mr a)) rfl (by kernel_rfl) (by kernel_rfl) (by kernel_rfl) (by kernel_rfl) rfl) ?_; intro bi u
 refine qg_ u false (.slice ao4 u2.length cap5) ?_; intro bj E
 obtain ⟨aF, aG⟩ := aE
 refine qcl E (i6 (getS a u2)) 34 #[.agg (e46Mr a).toArray, .slice ao4 u2.length cap5] (wK E false) rfl (by kernel_rfl) (fun _ => by kernel_rfl) (qfc fun w hC => rrawof_fun a u2 aF ao4 cap5 _ _ hs6 hC.fz) ?_; intro bk x
 refine qg_ x false (pt f 8) ?_; intro bl y
 refine qst y (i6 u1.Key) (wK y false) rfl (by kernel_rfl) (fun v125 hC => ld y hC 0 (g := []) (b := f) (off := 8) (cs := (e46Mr u1)) (ty := 46) rfl (by kernel_rfl) (by kernel_rfl) (by kernel_rfl) (by kernel_rfl) rfl) ?_; intro bm z
 refine qg_ z false (.bool ((getS a u2) == u1.Key)) ?_; intro bn ao
 refine q1 ao 22 (.bool ((getS a u2) == u1.Key)) ?_; intro bo ap
 refine q1 ap 6 (.bool ((getS a u2) == u1.Key)) ?_; intro bp aH
 refine qnl (aj _ ?_); intro bq aI
 exact r_ (ra1 aH (.bool ((getS a u2) == u1.Key)) ⟨(getS a u2) == u1.Key, rfl, aG, aI.below⟩)
end Go.Proofs.YtdndfbamhnchfaaGreatDoor
set_option linter.unusedVariables false
set_option linter.unusedSimpArgs false
set_option linter.defProp false
set_option maxRecDepth 100000
set_option maxHeartbeats 0
namespace Go.Proofs.YtdndfbamhnchfaaGreatDoor
open Go.Sy Go.RowKit
abbrev e46Ms (X : Signal) : List Value := [str X.Name, i6 X.Start, i6 X.Size, .bool X.Back, .bool X.Signed, i6 X.Mul, i6 X.Div, i6 X.Add, i6 X.Key]
abbrev e24Ms (X : Message) (A0 : Option Addr) (C0 : Nat) : List Value := [i6 X.ID, .bool X.Long, str X.Name, i6 X.Size, i6 X.Chooser, .slice A0 X.Signals.length C0]
def rcheck_fun (u0 : Signal) (u1 : Int)  (Z : Fz) (w : World)  (hZ : Z.on w) := f_ (rcheck_walk u0 u1  Z w  hZ (rcheck_ok u0 u1))
def rover_fun (u0 : Signal) (u1 : Signal) (hpre : ((0 ≤ u0.Start ∧ u0.Start ≤ 512) ∧ 1 ≤ u0.Size ∧ u0.Size ≤ 40) ∧ (0 ≤ u1.Start ∧ u1.Start ≤ 512) ∧ 1 ≤ u1.Size ∧ u1.Size ≤ 40)  (Z : Fz) (w : World)  (hZ : Z.on w) := f_ (rover_walk u0 u1  Z w  hZ (rover_ok u0 u1 hpre))
def rcheckfr_fun (u0 : Frame) (ao1 : Option Addr) (cap2 : Nat) (Z : Fz) (w : World) (hs3 : SlR t8 Z ao1 cap2 u0.Data) (hZ : Z.on w) := f_ (rcheckfr_walk u0 ao1 cap2 Z w hs3 hZ (rcheckfr_ok u0))
def rthere_fun (u0 : Message) (u1 : Signal) (u2 : List Int) (hpre : -1 ≤ u1.Key ∧ therepre u0 u1 u2) (ao1 : Option Addr) (cap2 : Nat) (ao4 : Option Addr) (cap5 : Nat) (Z : Fz) (w : World) (hs3 : SlR tySignal Z ao1 cap2 u0.Signals) (hs6 : SlR t8 Z ao4 cap5 u2) (hZ : Z.on w) := f_ (rthere_walk u0 u1 u2 ao1 cap2 ao4 cap5 Z w hs3 hs6 hZ (rthere_ok u0 u1 u2 hpre))
theorem rcheckm_walk (u0 : Message) (ao1 : Option Addr) (cap2 : Nat) (Z : Fz) (w : World) (hs3 : SlR tySignal Z ao1 cap2 u0.Signals) (hZ : Z.on w) {K : Int → Prop} (hp : rcheckm_vc u0 K) : Calls Tryz.prog 7 #[.agg #[i6 u0.ID, .bool u0.Long, str u0.Name, i6 u0.Size, i6 u0.Chooser, .slice ao1 u0.Signals.length cap2]] w fun e w' => ∃ r : Int, e = .returned (i6 r) ∧ K r ∧ Below w.heap.size w w' := by
 refine enter0 Tryz.func7 rfl rfl (by kernel_rfl) ?_; intro a0 aV; have aW := Mem.start w Z hZ
 have S := hp (hs3.small)
 refine sqH ?_; intro cz aX
 refine nw aV aW pb (e24Ms u0 ao1 cap2) 24 ?_; intro j a7 eF aY U
 refine s1 aY 2 (i6 0) ?_; intro eG aZ
 apply aX
 refine s_ (sqH ?_); intro cA a2
 refine bt aZ U 2 [0] [] [(14, str u0.Name)] ?_; intro eH a3
 refine fc a3 U (risname_fun u0.Name _ _ U.fz) ?_; intro eI eJ a4 A
 refine s1 a4 16 (.bool (!(nameS u0.Name))) ?_; intro eK E
 apply a2
 refine cd E (t := !(nameS u0.Name)) (by kernel_rfl) (fun aw => ?_) (fun aw => ?_)
 · -- yes
  have cB := S.1 aw
  refine sqB E A [] [] [(2, i6 1)] ?_; intro eL cC
  exact r_ (h_ (ra1 cC (i6 1) ⟨1, rfl, cB, A.below⟩))
 · -- no
  have V := S.2 aw
  refine k_ (s_ (sqH ?_)); intro cD a5
  refine bt E A 5 [0, 0] [] [(21, .agg #[i6 u0.ID, .bool u0.Long, .bool false, .bool false, i6 0, .slice none 0 0])] ?_; intro eM a6
  refine fc a6 A (rcheckfr_fun (⟨u0.ID, u0.Long, false, false, 0, []⟩ : Frame) none 0 _ _ (SlR.nil _ _) A.fz) ?_; intro eN eO a8 l
  refine s1 a8 3 (i6 (fcheckfr (⟨u0.ID, u0.Long, false, false, 0, []⟩ : Frame))) ?_; intro eP a9
  apply a5
  refine sqB a9 l [] [] [(24, .bool ((fcheckfr (⟨u0.ID, u0.Long, false, false, 0, []⟩ : Frame)) != 0))] ?_; intro eQ F
  refine cd F (t := (fcheckfr (⟨u0.ID, u0.Long, false, false, 0, []⟩ : Frame)) != 0) (by kernel_rfl) (fun ax => ?_) (fun ax => ?_)
  · -- yes
   have cE := V.1 ax
   refine sqB F l [] [] [(2, i6 (fcheckfr (⟨u0.ID, u0.Long, false, false, 0, []⟩ : Frame)))] ?_; intro eR cF
   exact r_ (h_ (ra1 cF (i6 (fcheckfr (⟨u0.ID, u0.Long, false, false, 0, []⟩ : Frame))) ⟨(fcheckfr (⟨u0.ID, u0.Long, false, false, 0, []⟩ : Frame)), rfl, cE, l.below⟩))
  · -- no
   have W := V.2 ax
   refine k_ (s_ (sqB F l [0, 0] [] [(33, .bool ((decide (u0.Size < 0)) || (decide (u0.Size > 8))))] ?_)); intro eS G
   refine cd G (t := (decide (u0.Size < 0)) || (decide (u0.Size > 8))) (by kernel_rfl) (fun ay => ?_) (fun ay => ?_)
   · -- yes
    have cG := W.1 ay
    refine sqB G l [] [] [(2, i6 3)] ?_; intro eT cH
    exact r_ (h_ (ra1 cH (i6 3) ⟨3, rfl, cG, l.below⟩))
   · -- no
    have X := W.2 ay
    refine k_ (s_ (sqB G l [0] [] [(37, .bool (decide ((u0.Signals.length : Int) > 16)))] ?_)); intro eU H
    refine cd H (t := decide ((u0.Signals.length : Int) > 16)) (by kernel_rfl) (fun az => ?_) (fun az => ?_)
    · -- yes
     have cI := X.1 az
     refine sqB H l [] [] [(2, i6 2)] ?_; intro eV cJ
     exact r_ (h_ (ra1 cJ (i6 2) ⟨2, rfl, cI, l.below⟩))
    · -- no
     have cK := X.2 az
     refine k_ (s_ (sqB H l [0] [] [(39, .slice ao1 u0.Signals.length cap2), (40, i6 (u0.Signals.length : Int)), (41, i6 0)] ?_)); intro Y ba
     have bb : Fr 138 [] [⟨1, [], pt j 0⟩, ⟨39, [], .slice ao1 u0.Signals.length cap2⟩, ⟨40, [], i6 (u0.Signals.length : Int)⟩, ⟨41, [], i6 0⟩] Y := ba.reg
     obtain ⟨cL, cM, cN⟩ := cK
     refine wp_then_k fun KJ113 hKJ114 => ?_
     have cO : ∀ (_u : Unit), cL → ∀ a1 w1, Fr 138 [] [⟨1, [], pt j 0⟩] a1 → Mem w.heap.size [] w Z [.row j (e24Ms u0 ao1 cap2) 24] Z w1 → KJ113 a1 w1 := by
      rintro _u cP eW eX bc o
      refine hKJ114 _ _ ?_
      have aa := cN  cP
      refine s_ (sqB bc o [0, 0, 0] [] [(100, .bool ((decide (u0.Chooser < (-1))) || (decide (u0.Chooser ≥ (u0.Signals.length : Int)))))] ?_); intro eY I
      refine cd I (t := (decide (u0.Chooser < (-1))) || (decide (u0.Chooser ≥ (u0.Signals.length : Int)))) (by kernel_rfl) (fun aB => ?_) (fun aB => ?_)
      · -- yes
       have cQ := aa.1 aB
       refine sqB I o [] [] [(2, i6 8)] ?_; intro eZ cR
       exact r_ (h_ (ra1 cR (i6 8) ⟨8, rfl, cQ, o.below⟩))
      · -- no
       have cS := aa.2 aB
       refine k_ (sqB I o [] [] [(9, i6 (-1))] ?_); intro e0 bd
       refine s_ (sqB bd o [0] [] [(103, .bool (decide (u0.Chooser ≥ 0)))] ?_); intro be bf
       have bg : Fr 138 [] [⟨1, [], pt j 0⟩, ⟨9, [], i6 (-1)⟩, ⟨103, [], .bool (decide (u0.Chooser ≥ 0))⟩] be := bf.reg
       obtain ⟨cT, ab, cU⟩ := cS
       refine wp_then_k fun KJ167 hKJ168 => ?_
       have bh : ∀ (m : Int), cT m → ∀ a1 w1, Fr 138 [] [⟨1, [], pt j 0⟩, ⟨9, [], i6 m⟩] a1 → Mem w.heap.size [] w Z [.row j (e24Ms u0 ao1 cap2) 24] Z w1 → KJ167 a1 w1 := by
        rintro m cV e1 e2 bi ac
        refine hKJ168 _ _ ?_
        have cW := cU m cV
        refine s_ (sqB bi ac [0] [] [(127, .slice ao1 u0.Signals.length cap2), (128, i6 (u0.Signals.length : Int)), (129, i6 0)] ?_); intro ad bj
        have bk : Fr 138 [] [⟨9, [], i6 m⟩, ⟨127, [], .slice ao1 u0.Signals.length cap2⟩, ⟨128, [], i6 (u0.Signals.length : Int)⟩, ⟨129, [], i6 0⟩] ad := bj.reg
        obtain ⟨cX, cY, cZ⟩ := cW
        refine wp_then_k fun KJ190 hKJ191 => ?_
        have c0 : ∀ (_u : Unit), cX → ∀ a1 w1, Fr 138 [] [] a1 → Mem w.heap.size [] w Z [.row j (e24Ms u0 ao1 cap2) 24] Z w1 → KJ190 a1 w1 := by
         rintro _u c1 e3 e4 bl bm
         refine hKJ191 _ _ ?_
         have c2 := cZ  c1
         refine sqB bl bm [] [] [(2, i6 0)] ?_; intro e5 c3
         exact r_ (ra1 c3 (i6 0) ⟨0, rfl, c2, bm.below⟩)
        apply b_
        have bn : Fr 138 [] [⟨9, [], i6 m⟩, ⟨127, [], .slice ao1 u0.Signals.length cap2⟩, ⟨128, [], i6 (u0.Signals.length : Int)⟩, ⟨129, [], i6 0⟩] ad := bk.reg
        obtain ⟨c4, c5, c6, c7⟩ := cY
        refine lp (ι := Int) (fun s => [⟨9, [], i6 m⟩, ⟨127, [], .slice ao1 u0.Signals.length cap2⟩, ⟨128, [], i6 (u0.Signals.length : Int)⟩, ⟨129, [], i6 s⟩]) (fun s => [.row j (e24Ms u0 ao1 cap2) 24]) (fun s => Z) (fun s => c4 s) (fun s => c5 s) 0 c6 (by exact bn.region (by kernel_rfl) (by kernel_rfl)) (by exact ac) ?_
        rintro u c8 c9 da bp bq
        have ae := c7 u c8
        refine sqB bp bq [] [] [(130, .bool (decide (u < (u0.Signals.length : Int))))] ?_; intro e6 af
        apply s_
        refine cd af (t := decide (u < (u0.Signals.length : Int))) (by kernel_rfl) (fun aD => ?_) (fun aD => ?_)
        · -- yes
         have db := ae.1 aD
         refine k_ (s_ (b_ (sqH ?_))); intro dc bs
         obtain ⟨dd, bu⟩ := db
         refine ix_ af hs3 u dd .i64 46 72 ?_; intro e7 e8 de h e9 df dg dh bv
         have ag := bu h df
         obtain rfl : de = ((e46Ms h) : List Value) := dh
         refine z2 bv bq 132 dg 0 9 (e46Ms h) rfl ?_; intro fa bw
         refine nw bw bq pb [str [], i6 0, i6 0, .bool false, .bool false, i6 0, i6 0, i6 0, i6 0] 46 ?_; intro di fb fd aE bx
         refine sx aE bx 0 (e46Ms h) 0 ?_; intro dj bz
         have M : Mem w.heap.size [] w Z [.row di (e46Ms h) 46, .row j (e24Ms u0 ao1 cap2) 24] Z dj := bz
         apply bs
         refine sqB aE M [0] [] [(136, .bool (decide (h.Key > m)))] ?_; intro fe N
         refine cd N (t := decide (h.Key > m)) (by kernel_rfl) (fun aF => ?_) (fun aF => ?_)
         · -- yes
          have dk := ag.1 aF
          refine sqB N M [] [] [(2, i6 4)] ?_; intro ff dl
          exact r_ (i_ (h_ (h_ (i_ (h_ (ra1 dl (i6 4) ⟨4, rfl, dk, M.below⟩))))))
         · -- no
          have bA := ag.2 aF
          refine l_ (j_ (t_ (rgB N M [] [] [(129, i6 (w64 (u + 1)))] ?_))); intro fg dm
          exact d_ ⟨w64 (u + 1), bA.1, bA.2, (dm.region (by kernel_rfl) (by kernel_rfl)).anyβ _ (by kernel_rfl), M.kp⟩
        · -- no
         have dn := ae.2 aD
         exact x_ (y_ (y_ (z_ (d_ (c0 () dn _ _ ((af.region (by kernel_rfl) (by kernel_rfl)).anyβ _ (by kernel_rfl)) (bq.kp))))))
       refine cd bg (t := decide (u0.Chooser ≥ 0)) (by kernel_rfl) (fun aG => ?_) (fun aG => ?_)
       · -- yes
        have dp := ab.1 aG
        refine sqH ?_; intro dq bB
        refine bt bg o 4 [0, 0] [] [(105, .slice ao1 u0.Signals.length cap2), (107, i6 u0.Chooser)] ?_; intro fh bC
        obtain ⟨dr, bD⟩ := dp
        refine ix_ bC hs3 u0.Chooser dr .i64 46 72 ?_; intro fi fj ds f fk dt du dv bE
        have ah := bD f dt
        obtain rfl : ds = ((e46Ms f) : List Value) := dv
        refine z2 bE o 109 du 0 9 (e46Ms f) rfl ?_; intro fl bF
        refine nw bF o pb [str [], i6 0, i6 0, .bool false, .bool false, i6 0, i6 0, i6 0, i6 0] 46 ?_; intro dw fm fn aH bG
        refine sx aH bG 0 (e46Ms f) 0 ?_; intro dx bH
        have B : Mem w.heap.size [] w Z [.row dw (e46Ms f) 46, .row j (e24Ms u0 ao1 cap2) 24] Z dx := bH
        apply bB
        refine s_ (sqB aH B [0, 0, 0] [] [(121, .bool ((f.Signed || (f.Key != (-1))) || (decide (f.Size > 8))))] ?_); intro fo O
        refine cd O (t := (f.Signed || (f.Key != (-1))) || (decide (f.Size > 8))) (by kernel_rfl) (fun aI => ?_) (fun aI => ?_)
        · -- yes
         have dy := ah.1 aI
         refine sqB O B [] [] [(2, i6 4)] ?_; intro fp dz
         exact r_ (h_ (h_ (ra1 dz (i6 4) ⟨4, rfl, dy, B.below⟩)))
        · -- no
         have dA := ah.2 aI
         refine k_ (rgH ?_); intro dB bI
         refine bt O B 2 [0] [] [(123, i6 f.Size)] ?_; intro fq aJ
         obtain ⟨dC, dD⟩ := dA
         refine u_ aJ (i6 (bShl .i64 1 f.Size)) (shl_run aJ (g := []) (k' := .i64) rfl (by kernel_rfl) (by kernel_rfl) dC rfl) ?_; intro fr bJ
         refine bt bJ B 2 [] [] [(9, i6 (w64 ((bShl .i64 1 f.Size) - 1)))] ?_; intro fs dE
         apply bI
         exact d_ (bh (w64 ((bShl .i64 1 f.Size) - 1)) dD _ _ ((dE.region (by kernel_rfl) (by kernel_rfl)).anyβ _ (by kernel_rfl)) (B.kp))
       · -- no
        have dF := ab.2 aG
        exact l_ (d_ (bh (-1) dF _ _ ((bg.region (by kernel_rfl) (by kernel_rfl)).anyβ _ (by kernel_rfl)) (o.kp)))
     apply b_
     have bK : Fr 138 [] [⟨1, [], pt j 0⟩, ⟨39, [], .slice ao1 u0.Signals.length cap2⟩, ⟨40, [], i6 (u0.Signals.length : Int)⟩, ⟨41, [], i6 0⟩] Y := bb.reg
     obtain ⟨dG, dH, dI, dJ⟩ := cM
     refine lp (ι := Int) (fun s => [⟨1, [], pt j 0⟩, ⟨39, [], .slice ao1 u0.Signals.length cap2⟩, ⟨40, [], i6 (u0.Signals.length : Int)⟩, ⟨41, [], i6 s⟩]) (fun s => [.row j (e24Ms u0 ao1 cap2) 24]) (fun s => Z) (fun s => dG s) (fun s => dH s) 0 dI (by exact bK.region (by kernel_rfl) (by kernel_rfl)) (by exact l) ?_
     rintro i dK dL dM bM bN
     have ai := dJ i dK
     refine sqB bM bN [] [] [(42, .bool (decide (i < (u0.Signals.length : Int))))] ?_; intro bP aj
     apply s_
     refine cd aj (t := decide (i < (u0.Signals.length : Int))) (by kernel_rfl) (fun aK => ?_) (fun aK => ?_)
     · -- yes
      have dN := ai.1 aK
      apply k_
      have bQ : Fr 138 [] [⟨1, [], pt j 0⟩, ⟨39, [], .slice ao1 u0.Signals.length cap2⟩, ⟨40, [], i6 (u0.Signals.length : Int)⟩, ⟨41, [], i6 i⟩] bP := aj.reg
      obtain ⟨dO, dP, dQ⟩ := dN
      refine wp_seq_k fun KJ369 hKJ370 => ?_
      have dR : ∀ (_u : Unit), dO → ∀ a1 w1, Fr 138 [] [⟨1, [], pt j 0⟩, ⟨39, [], .slice ao1 u0.Signals.length cap2⟩, ⟨40, [], i6 (u0.Signals.length : Int)⟩, ⟨41, [], i6 i⟩] a1 → Mem w.heap.size [] w Z [.row j (e24Ms u0 ao1 cap2) 24] Z w1 → KJ369 a1 w1 := by
       rintro _u dS ft fu bR bS
       refine hKJ370 _ _ ?_
       have bT := dQ  dS
       refine rgB bR bS [] [] [(41, i6 (w64 (i + 1)))] ?_; intro fv dT
       exact d_ ⟨w64 (i + 1), bT.1, bT.2, (dT.region (by kernel_rfl) (by kernel_rfl)).anyβ _ (by kernel_rfl), bS.kp⟩
      refine b_ (sqH ?_); intro dU bU
      refine s1 bQ 43 (i6 i) ?_; intro fw bV
      obtain ⟨dV, bW⟩ := dP
      refine ix_ bV hs3 i dV .i64 46 72 ?_; intro fx fy dW a fA dX dY dZ bX
      have ak := bW a dX
      obtain rfl : dW = ((e46Ms a) : List Value) := dZ
      refine z2 bX bN 45 dY 0 9 (e46Ms a) rfl ?_; intro fB bY
      refine nw bY bN pb [str [], i6 0, i6 0, .bool false, .bool false, i6 0, i6 0, i6 0, i6 0] 46 ?_; intro n fC fD bZ b0
      refine s1 bZ 4 (i6 i) ?_; intro fE aM
      refine sx aM b0 0 (e46Ms a) 0 ?_; intro d0 b1
      have al : Mem w.heap.size [] w Z [.row n (e46Ms a) 46, .row j (e24Ms u0 ao1 cap2) 24] Z d0 := b1
      apply bU
      refine s_ (sqH ?_); intro d1 b2
      refine bt aM al 3 [0, 1] [] [(46, .agg (e46Ms a).toArray), (48, i6 u0.Size)] ?_; intro fF b3
      refine fc b3 al (rcheck_fun a u0.Size _ _ al.fz) ?_; intro fG fH b4 x
      refine s1 b4 6 (i6 (checkS a u0.Size)) ?_; intro fI b5
      apply b2
      refine sqB b5 x [] [] [(51, .bool ((checkS a u0.Size) != 0))] ?_; intro fJ P
      refine cd P (t := (checkS a u0.Size) != 0) (by kernel_rfl) (fun aN => ?_) (fun aN => ?_)
      · -- yes
       have d2 := ak.1 aN
       refine sqB P x [] [] [(2, i6 (checkS a u0.Size))] ?_; intro fK d3
       exact r_ (h_ (i_ (h_ (h_ (i_ (h_ (ra1 d3 (i6 (checkS a u0.Size)) ⟨(checkS a u0.Size), rfl, d2, x.below⟩)))))))
      · -- no
       have d4 := ak.2 aN
       refine k_ (sqH ?_); intro d5 b7
       refine bt P x 3 [1] [] [(54, .slice ao1 u0.Signals.length cap2), (55, i6 i)] ?_; intro fL b8
       obtain ⟨d6, d7⟩ := d4
       refine slH b8 (T := tySignal) (xs := u0.Signals) hs3 i d6 (k' := .i64) (e := 46) (bytes := 72) (nog rfl _) rfl (by kernel_rfl) rfl (by kernel_rfl) (by kernel_rfl) (by kernel_rfl) ?_; intro y z fM fN d8 b9
       refine bt b9 x 2 [] [] [(57, i6 ((u0.Signals.take i.toNat).length : Int)), (58, i6 0)] ?_; intro ca cb
       apply b7
       apply b_
       have cc : Fr 138 [] [⟨1, [], pt j 0⟩, ⟨5, [], pt n 0⟩, ⟨39, [], .slice ao1 u0.Signals.length cap2⟩, ⟨40, [], i6 (u0.Signals.length : Int)⟩, ⟨41, [], i6 i⟩, ⟨56, [], .slice y (u0.Signals.take i.toNat).length z⟩, ⟨57, [], i6 ((u0.Signals.take i.toNat).length : Int)⟩, ⟨58, [], i6 0⟩] ca := cb.reg
       obtain ⟨d9, ea, eb, ec⟩ := d7
       refine lp (ι := Int) (fun s => [⟨1, [], pt j 0⟩, ⟨5, [], pt n 0⟩, ⟨39, [], .slice ao1 u0.Signals.length cap2⟩, ⟨40, [], i6 (u0.Signals.length : Int)⟩, ⟨41, [], i6 i⟩, ⟨56, [], .slice y (u0.Signals.take i.toNat).length z⟩, ⟨57, [], i6 ((u0.Signals.take i.toNat).length : Int)⟩, ⟨58, [], i6 s⟩]) (fun s => [.row n (e46Ms a) 46, .row j (e24Ms u0 ao1 cap2) 24]) (fun s => Z) (fun s => d9 s) (fun s => ea s) 0 eb (by exact cc.region (by kernel_rfl) (by kernel_rfl)) (by exact x) ?_
       rintro p ed ee ef cf cg
       have am := ec p ed
       refine sqB cf cg [] [] [(59, .bool (decide (p < ((u0.Signals.take i.toNat).length : Int))))] ?_; intro ci an
       apply s_
       refine cd an (t := decide (p < ((u0.Signals.take i.toNat).length : Int))) (by kernel_rfl) (fun aO => ?_) (fun aO => ?_)
       · -- yes
        have eg := am.1 aO
        apply k_
        have cj : Fr 138 [] [⟨1, [], pt j 0⟩, ⟨5, [], pt n 0⟩, ⟨39, [], .slice ao1 u0.Signals.length cap2⟩, ⟨40, [], i6 (u0.Signals.length : Int)⟩, ⟨41, [], i6 i⟩, ⟨56, [], .slice y (u0.Signals.take i.toNat).length z⟩, ⟨57, [], i6 ((u0.Signals.take i.toNat).length : Int)⟩, ⟨58, [], i6 p⟩] ci := an.reg
        obtain ⟨eh, ei, ej⟩ := eg
        refine wp_seq_k fun KJ479 hKJ480 => ?_
        have ck : ∀ (_u : Unit), eh → ∀ a1 w1, Fr 138 [] [⟨1, [], pt j 0⟩, ⟨5, [], pt n 0⟩, ⟨39, [], .slice ao1 u0.Signals.length cap2⟩, ⟨40, [], i6 (u0.Signals.length : Int)⟩, ⟨41, [], i6 i⟩, ⟨56, [], .slice y (u0.Signals.take i.toNat).length z⟩, ⟨57, [], i6 ((u0.Signals.take i.toNat).length : Int)⟩, ⟨58, [], i6 p⟩] a1 → Mem w.heap.size [] w Z [.row n (e46Ms a) 46, .row j (e24Ms u0 ao1 cap2) 24] Z w1 → KJ479 a1 w1 := by
         rintro _u ek fO fP cl cm
         refine hKJ480 _ _ ?_
         have cn := ej  ek
         refine rgB cl cm [] [] [(58, i6 (w64 (p + 1)))] ?_; intro fQ el
         exact d_ ⟨w64 (p + 1), cn.1, cn.2, (el.region (by kernel_rfl) (by kernel_rfl)).anyβ _ (by kernel_rfl), cm.kp⟩
        refine b_ (sqH ?_); intro em co
        obtain ⟨en, cp⟩ := ei
        refine ix_ cj d8 p en .i64 46 72 ?_; intro fR fS eo b fT ep eq er cq
        have ao := cp b ep
        obtain rfl : eo = ((e46Ms b) : List Value) := er
        refine z2 cq cg 61 eq 0 9 (e46Ms b) rfl ?_; intro fU cr
        refine nw cr cg pb [str [], i6 0, i6 0, .bool false, .bool false, i6 0, i6 0, i6 0, i6 0] 46 ?_; intro es fV fW aQ cs
        refine sx aQ cs 0 (e46Ms b) 0 ?_; intro et ct
        have q : Mem w.heap.size [] w Z [.row es (e46Ms b) 46, .row n (e46Ms a) 46, .row j (e24Ms u0 ao1 cap2) 24] Z et := ct
        apply co
        refine s_ (sqB aQ q [1, 0] [204] [(66, .bool (a.Name == b.Name))] ?_); intro fX Q
        refine cd Q (t := a.Name == b.Name) (by kernel_rfl) (fun aR => ?_) (fun aR => ?_)
        · -- yes
         have eu := ao.1 aR
         refine sqB Q q [] [] [(2, i6 9)] ?_; intro fY ev
         exact r_ (h_ (i_ (h_ (h_ (i_ (i_ (h_ (h_ (i_ (h_ (ra1 ev (i6 9) ⟨9, rfl, eu, q.below⟩)))))))))))
        · -- no
         have ap := ao.2 aR
         refine k_ (sqH ?_); intro cu aq
         refine bt Q q 17 [1, 0, 1, 0] [] [(83, .bool (!(((decide (a.Key ≥ 0)) && (decide (b.Key ≥ 0))) && (a.Key != b.Key))))] ?_; intro fZ ar
         rcases Bool.eq_false_or_eq_true (!(((decide (a.Key ≥ 0)) && (decide (b.Key ≥ 0))) && (a.Key != b.Key))) with R | R
         · -- true
          have ew := ap.1 R
          have cv := ar.reval (d := 83) (c := []) (v := .bool (!(((decide (a.Key ≥ 0)) && (decide (b.Key ≥ 0))) && (a.Key != b.Key)))) (by kernel_rfl) (.bool true) (by rw [R])
          refine bt cv q 2 [1, 0] [84, 85] [(84, .agg (e46Ms a).toArray), (85, .agg (e46Ms b).toArray)] ?_; intro f0 aS
          obtain ⟨ex, au⟩ := ew
          refine fcl aS q (.bool (roverS a b)) 28 #[.agg (e46Ms a).toArray, .agg (e46Ms b).toArray] (wK aS true) rfl (by kernel_rfl) (fun _ => by kernel_rfl) (rover_fun a b ex _ _ q.fz) ?_; intro f1 f2 cw aT
          refine s1 cw 87 (.bool (roverS a b)) ?_; intro f3 av
          apply aq
          refine cd av (t := (roverS a b)) (by kernel_rfl) (fun aU => ?_) (fun aU => ?_)
          · -- yes
           have ey := au.1 aU
           refine sqB av aT [] [] [(2, i6 10)] ?_; intro f4 ez
           exact r_ (i_ (h_ (h_ (i_ (i_ (h_ (h_ (i_ (h_ (ra1 ez (i6 10) ⟨10, rfl, ey, aT.below⟩))))))))))
          · -- no
           have eA := au.2 aU
           exact l_ (j_ (d_ (ck () eA _ _ ((av.region (by kernel_rfl) (by kernel_rfl)).anyβ _ (by kernel_rfl)) (aT.kp))))
         · -- false
          have eB := ap.2 R
          have cx := ar.reval (d := 83) (c := []) (v := .bool (!(((decide (a.Key ≥ 0)) && (decide (b.Key ≥ 0))) && (a.Key != b.Key)))) (by kernel_rfl) (.bool false) (by rw [R])
          refine bt cx q 4 [] [84, 85, 86, 87] [(87, .bool false)] ?_; intro f5 cy
          apply aq
          refine cdF cy (by kernel_rfl) ?_
          exact l_ (j_ (d_ (ck () eB _ _ ((cy.region (by kernel_rfl) (by kernel_rfl)).anyβ _ (by kernel_rfl)) (q.kp))))
       · -- no
        have eC := am.2 aO
        exact x_ (y_ (y_ (z_ (j_ (d_ (dR () eC _ _ ((an.region (by kernel_rfl) (by kernel_rfl)).anyβ _ (by kernel_rfl)) (cg.kp)))))))
     · -- no
      have eD := ai.2 aK
      exact x_ (y_ (y_ (z_ (d_ (cO () eD _ _ ((aj.region (by kernel_rfl) (by kernel_rfl)).anyβ _ (by kernel_rfl)) (bN.kp))))))
end Go.Proofs.YtdndfbamhnchfaaGreatDoor
set_option linter.unusedVariables false
set_option linter.unusedSimpArgs false
set_option maxRecDepth 100000
set_option maxHeartbeats 0
namespace Go.Proofs.YtdndfbamhnchfaaGreatDoor
open Go.Sy Go.RowKit
theorem gtrim_walk (u0 : List Int) (ao1 : Option Addr) (cap2 : Nat) (Z : Fz) (w : World) (hs3 : SlR (tyInt .u32) Z ao1 cap2 u0) (hZ : Z.on w) {K : (List Int) → Prop} (hp : gtrim_vc u0 K) : Calls Tryz.prog 105 #[.slice ao1 u0.length cap2] w fun e w' => ∃ (r : (List Int)) (ao1001 : Option Addr) (cap1002 : Nat) (Z' : Fz), e = .returned (.slice ao1001 r.length cap1002) ∧ K r ∧ SlR (tyInt .u32) Z' ao1001 cap1002 r ∧ Mem w.heap.size [] w Z [] Z' w' := by
 refine enter0 Tryz.func105 rfl rfl (by kernel_rfl) ?_; intro a0 C; have j := Mem.start w Z hZ
 have aa := hp (hs3.small)
 refine sqB C j [] [] [] ?_; intro a6 D
 refine sqB D j [] [] [(3, i6 (u0.length : Int))] ?_; intro E F
 refine s_ (b_ ?_)
 have G : Fr 21 [] [⟨0, [], .slice ao1 u0.length cap2⟩, ⟨3, [], i6 (u0.length : Int)⟩] E := F.reg
 obtain ⟨ab, ac, ad, ae⟩ := aa
 refine lp (ι := Int) (fun s => [⟨0, [], .slice ao1 u0.length cap2⟩, ⟨3, [], i6 s⟩]) (fun s => []) (fun s => Z) (fun s => ab s) (fun s => ac s) (u0.length : Int) ad (by exact G.region (by kernel_rfl) (by kernel_rfl)) (by exact j) ?_
 rintro a af ag ah I J
 have l := ae a af
 refine s_ (sqH ?_); intro M m
 refine bt I J 3 [] [] [(8, .bool (decide (a > 0)))] ?_; intro aE n
 rcases Bool.eq_false_or_eq_true (decide (a > 0)) with f | f
 · -- true
  have ai := l.1 f
  have N := n.reval (d := 8) (c := []) (v := .bool (decide (a > 0))) (by kernel_rfl) (.bool true) (by rw [f])
  refine bt N J 3 [] [9, 10, 11] [(9, .slice ao1 u0.length cap2), (11, i6 (w64 (a - 1)))] ?_; intro aF q
  obtain ⟨aj, O⟩ := ai
  refine ix q (T := (tyInt .u32)) (xs := u0) hs3 (w64 (a - 1)) aj (k := .i64) (e := 105) (bytes := 4) (wK q true) rfl (by kernel_rfl) rfl (by kernel_rfl) (by kernel_rfl) (by kernel_rfl) ?_; intro aG aH ak h aI al am an o
  have p := O h al
  obtain rfl : ak = ([.int .u32 h] : List Value) := an
  refine v_ o (.int .u32 h) (wK o true) (lz o J.fz am 0 (g := []) rfl (by kernel_rfl) (by kernel_rfl) (by kernel_rfl) rfl) ?_; intro aJ P
  refine bt P J 2 [] [14, 15] [(15, .bool (h == 0))] ?_; intro aK i
  apply m
  refine cd i (t := h == 0) (by kernel_rfl) (fun u => ?_) (fun u => ?_)
  · -- yes
   have Q := p.1 u
   refine k_ (b_ (rgB i J [] [] [(3, i6 (w64 (a - 1)))] ?_)); intro aL ao
   exact j_ (d_ ⟨w64 (a - 1), Q.1, Q.2, (ao.region (by kernel_rfl) (by kernel_rfl)).anyβ _ (by kernel_rfl), J.kp⟩)
  · -- no
   have ap := p.2 u
   refine x_ (y_ (y_ (z_ (t_ (sqH ?_))))); intro aq R
   refine bt i J 2 [] [] [(18, .slice ao1 u0.length cap2), (19, i6 a)] ?_; intro aM S
   obtain ⟨ar, au⟩ := ap
   refine slH S (T := (tyInt .u32)) (xs := u0) hs3 a ar (k' := .i64) (e := 105) (bytes := 4) (nog rfl _) rfl (by kernel_rfl) rfl (by kernel_rfl) (by kernel_rfl) (by kernel_rfl) ?_; intro x y aN aO av U
   refine s1 U 2 (.slice x (u0.take a.toNat).length y) ?_; intro aP aw
   apply R
   exact r_ (ra1 aw (.slice x (u0.take a.toNat).length y) ⟨u0.take a.toNat, x, y, Z, rfl, au, av, J.kp⟩)
 · -- false
  have ax := l.2 f
  have V := n.reval (d := 8) (c := []) (v := .bool (decide (a > 0))) (by kernel_rfl) (.bool false) (by rw [f])
  refine bt V J 7 [] [9, 10, 11, 12, 13, 14, 15] [(15, .bool false)] ?_; intro aQ z
  apply m
  refine cdF z (by kernel_rfl) ?_
  refine x_ (y_ (y_ (z_ (t_ (sqH ?_))))); intro ay W
  refine bt z J 2 [] [] [(18, .slice ao1 u0.length cap2), (19, i6 a)] ?_; intro aR X
  obtain ⟨az, aA⟩ := ax
  refine slH X (T := (tyInt .u32)) (xs := u0) hs3 a az (k' := .i64) (e := 105) (bytes := 4) (nog rfl _) rfl (by kernel_rfl) rfl (by kernel_rfl) (by kernel_rfl) (by kernel_rfl) ?_; intro A B aS aT aB Y
  refine s1 Y 2 (.slice A (u0.take a.toNat).length B) ?_; intro aU aC
  apply W
  exact r_ (ra1 aC (.slice A (u0.take a.toNat).length B) ⟨u0.take a.toNat, A, B, Z, rfl, aA, aB, J.kp⟩)
theorem gplain_walk (u0 : List Int) (ao1 : Option Addr) (cap2 : Nat) (Z : Fz) (w : World) (hs3 : SlR (tyInt .u32) Z ao1 cap2 u0) (hZ : Z.on w) {K : Int → Prop} (hp : gplain_vc u0 K) : Calls Tryz.prog 129 #[.slice ao1 u0.length cap2] w fun e w' => ∃ r : Int, e = .returned (y6 r) ∧ K r ∧ Below w.heap.size w w' := by
 refine enter0 Tryz.func129 rfl rfl (by kernel_rfl) ?_; intro a0 p; have a := Mem.start w Z hZ
 have i := hp (hs3.small)
 refine sqB p a [] [] [] ?_; intro a6 q
 refine sqB q a [] [] [(3, y6 0)] ?_; intro a9 s
 refine s_ (sqB s a [] [] [(6, .bool (decide ((u0.length : Int) > 0)))] ?_); intro aw f
 refine cd f (t := decide ((u0.length : Int) > 0)) (by kernel_rfl) (fun m => ?_) (fun m => ?_)
 · -- yes
  have O := i.1 m
  refine rgH ?_; intro P u
  refine s1 f 7 (.slice ao1 u0.length cap2) ?_; intro ax v
  obtain ⟨Q, x⟩ := O
  refine ix_ v hs3 (0 : Int) Q .i64 105 4 ?_; intro ay az R b aA S U V y
  have j := x b S
  obtain rfl : R = ([.int .u32 b] : List Value) := V
  refine z1 y a 9 U 0 (.int .u32 b) rfl ?_; intro aB z
  refine bt z a 2 [] [] [(3, y6 (wu64 b))] ?_; intro aC A
  apply u
  refine t_ (s_ (sqB A a [] [] [(13, .bool (decide ((u0.length : Int) > 1)))] ?_)); intro aD g
  refine cd g (t := decide ((u0.length : Int) > 1)) (by kernel_rfl) (fun n => ?_) (fun n => ?_)
  · -- yes
   have W := j.1 n
   refine rgH ?_; intro X B
   refine bt g a 2 [] [] [(14, y6 (wu64 b)), (15, .slice ao1 u0.length cap2)] ?_; intro aE C
   obtain ⟨Y, D⟩ := W
   refine ix_ C hs3 (1 : Int) Y .i64 105 4 ?_; intro aF aG aa c aH ab ac ad E
   have ae := D c ab
   obtain rfl : aa = ([.int .u32 c] : List Value) := ad
   refine z1 E a 17 ac 0 (.int .u32 c) rfl ?_; intro aI F
   refine bt F a 4 [] [] [(3, y6 (bOr .u64 (wu64 b) (bShl .u64 (wu64 c) 32)))] ?_; intro aJ G
   apply B
   refine t_ (sqB G a [] [] [(2, y6 (bOr .u64 (wu64 b) (bShl .u64 (wu64 c) 32)))] ?_); intro aK af
   exact r_ (ra1 af (y6 (bOr .u64 (wu64 b) (bShl .u64 (wu64 c) 32))) ⟨bOr .u64 (wu64 b) (bShl .u64 (wu64 c) 32), rfl, ae, a.below⟩)
  · -- no
   have ag := j.2 n
   refine k_ (sqB g a [] [] [(2, y6 (wu64 b))] ?_); intro aL ah
   exact r_ (ra1 ah (y6 (wu64 b)) ⟨wu64 b, rfl, ag, a.below⟩)
 · -- no
  have l := i.2 m
  refine k_ (s_ (sqB f a [] [] [(13, .bool (decide ((u0.length : Int) > 1)))] ?_)); intro aM h
  refine cd h (t := decide ((u0.length : Int) > 1)) (by kernel_rfl) (fun o => ?_) (fun o => ?_)
  · -- yes
   have ai := l.1 o
   refine rgH ?_; intro aj H
   refine bt h a 2 [] [] [(14, y6 0), (15, .slice ao1 u0.length cap2)] ?_; intro aN I
   obtain ⟨ak, J⟩ := ai
   refine ix_ I hs3 (1 : Int) ak .i64 105 4 ?_; intro aO aP al d aQ am an ao L
   have ap := J d am
   obtain rfl : al = ([.int .u32 d] : List Value) := ao
   refine z1 L a 17 an 0 (.int .u32 d) rfl ?_; intro aR M
   refine bt M a 4 [] [] [(3, y6 (bOr .u64 0 (bShl .u64 (wu64 d) 32)))] ?_; intro aS N
   apply H
   refine t_ (sqB N a [] [] [(2, y6 (bOr .u64 0 (bShl .u64 (wu64 d) 32)))] ?_); intro aT aq
   exact r_ (ra1 aq (y6 (bOr .u64 0 (bShl .u64 (wu64 d) 32))) ⟨bOr .u64 0 (bShl .u64 (wu64 d) 32), rfl, ap, a.below⟩)
  · -- no
   have ar := l.2 o
   refine k_ (sqB h a [] [] [(2, y6 0)] ?_); intro aU au
   exact r_ (ra1 au (y6 0) ⟨0, rfl, ar, a.below⟩)
theorem gcmp_walk (u0 : List Int) (u1 : List Int) (ao1 : Option Addr) (cap2 : Nat) (ao4 : Option Addr) (cap5 : Nat) (Z : Fz) (w : World) (hs3 : SlR (tyInt .u32) Z ao1 cap2 u0) (hs6 : SlR (tyInt .u32) Z ao4 cap5 u1) (hZ : Z.on w) {K : Int → Prop} (hp : gcmp_vc u0 u1 K) : Calls Tryz.prog 84 #[.slice ao1 u0.length cap2, .slice ao4 u1.length cap5] w fun e w' => ∃ r : Int, e = .returned (i6 r) ∧ K r ∧ Below w.heap.size w w' := by
 refine enter0 Tryz.func84 rfl rfl (by kernel_rfl) ?_; intro a0 J; have b := Mem.start w Z hZ
 have p := hp (hs3.small) (hs6.small)
 refine sqB J b [] [] [] ?_; intro bg M
 refine s_ (sqB M b [] [] [(10, .bool ((u0.length : Int) != (u1.length : Int)))] ?_); intro bh c
 refine cd c (t := (u0.length : Int) != (u1.length : Int)) (by kernel_rfl) (fun A => ?_) (fun A => ?_)
 · -- yes
  have q := p.1 A
  refine s_ (sqB c b [] [] [(15, .bool (decide ((u0.length : Int) < (u1.length : Int))))] ?_); intro bi d
  refine cd d (t := decide ((u0.length : Int) < (u1.length : Int))) (by kernel_rfl) (fun B => ?_) (fun B => ?_)
  · -- yes
   have ar := q.1 B
   refine sqB d b [] [] [(4, i6 (-1))] ?_; intro bj au
   exact r_ (h_ (h_ (ra1 au (i6 (-1)) ⟨-1, rfl, ar, b.below⟩)))
  · -- no
   have av := q.2 B
   refine k_ (sqB d b [] [] [(4, i6 1)] ?_); intro bk aw
   exact r_ (h_ (ra1 aw (i6 1) ⟨1, rfl, av, b.below⟩))
 · -- no
  have ax := p.2 A
  refine k_ (s_ (sqB c b [] [] [(5, i6 (w64 ((u0.length : Int) - 1)))] ?_)); intro N O
  apply b_
  have P : Fr 41 [] [⟨0, [], .slice ao1 u0.length cap2⟩, ⟨1, [], .slice ao4 u1.length cap5⟩, ⟨5, [], i6 (w64 ((u0.length : Int) - 1))⟩] N := O.reg
  obtain ⟨ay, az, aA, aB⟩ := ax
  refine lp (ι := Int) (fun s => [⟨0, [], .slice ao1 u0.length cap2⟩, ⟨1, [], .slice ao4 u1.length cap5⟩, ⟨5, [], i6 s⟩]) (fun s => []) (fun s => Z) (fun s => ay s) (fun s => az s) (w64 ((u0.length : Int) - 1)) aA (by exact P.region (by kernel_rfl) (by kernel_rfl)) (by exact b) ?_
  rintro a aC aD aE R S
  have u := aB a aC
  refine s_ (sqB R S [] [] [(20, .bool (decide (a ≥ 0)))] ?_); intro aF h
  refine cd h (t := decide (a ≥ 0)) (by kernel_rfl) (fun C => ?_) (fun C => ?_)
  · -- yes
   have aG := u.1 C
   refine k_ (s_ (b_ ?_))
   have V : Fr 41 [] [⟨0, [], .slice ao1 u0.length cap2⟩, ⟨1, [], .slice ao4 u1.length cap5⟩, ⟨5, [], i6 a⟩] aF := h.reg
   refine sqQH mixed (by kernel_rfl) S ?_; intro aH W
   refine q1 V 23 (.slice ao1 u0.length cap2) ?_; intro bl X
   refine q1 X 24 (i6 a) ?_; intro bm Y
   obtain ⟨aI, aa⟩ := aG
   refine qx_ Y hs3 a aI .i64 105 4 ?_; intro bn bo aJ i bp aK aL aM D
   have aN := aa i aK
   obtain rfl : aJ = ([.int .u32 i] : List Value) := aM
   refine qz_ D aL 0 (.int .u32 i) rfl ?_; intro bq ab
   refine q1 ab 27 (.slice ao4 u1.length cap5) ?_; intro br ac
   refine q1 ac 28 (i6 a) ?_; intro bs ad
   obtain ⟨aO, ae⟩ := aN
   refine qx_ ad hs6 a aO .i64 105 4 ?_; intro bt bu aP j bv aQ aR aS E
   have v := ae j aQ
   obtain rfl : aP = ([.int .u32 j] : List Value) := aS
   refine qz_ E aR 0 (.int .u32 j) rfl ?_; intro bw af
   refine q1 af 31 (.bool (i != j)) ?_; intro aT l
   refine qnl (W _ ?_); intro bx x
   refine cd l (t := i != j) (by kernel_rfl) (fun F => ?_) (fun F => ?_)
   · -- yes
    have aU := v.1 F
    apply s_
    have ag : Fr 41 [] [⟨0, [], .slice ao1 u0.length cap2⟩, ⟨1, [], .slice ao4 u1.length cap5⟩, ⟨5, [], i6 a⟩] aT := l.reg
    refine sqQH mixed (by kernel_rfl) x ?_; intro aV ah
    refine q1 ag 32 (.slice ao1 u0.length cap2) ?_; intro bz ai
    refine q1 ai 33 (i6 a) ?_; intro bA aj
    obtain ⟨aW, ak⟩ := aU
    refine qx_ aj hs3 a aW .i64 105 4 ?_; intro bB bC aX m bD aY aZ a1 G
    have a2 := ak m aY
    obtain rfl : aX = ([.int .u32 m] : List Value) := a1
    refine qz_ G aZ 0 (.int .u32 m) rfl ?_; intro bE al
    refine q1 al 36 (.slice ao4 u1.length cap5) ?_; intro bF am
    refine q1 am 37 (i6 a) ?_; intro bG an
    obtain ⟨a3, ao⟩ := a2
    refine qx_ an hs6 a a3 .i64 105 4 ?_; intro bH bI a4 n bJ a5 a6 a7 H
    have y := ao n a5
    obtain rfl : a4 = ([.int .u32 n] : List Value) := a7
    refine qz_ H a6 0 (.int .u32 n) rfl ?_; intro bK ap
    refine q1 ap 40 (.bool (decide (m < n))) ?_; intro bL o
    refine qnl (ah _ ?_); intro bM z
    refine cd o (t := decide (m < n)) (by kernel_rfl) (fun I => ?_) (fun I => ?_)
    · -- yes
     have a8 := y.1 I
     refine sqB o z [] [] [(4, i6 (-1))] ?_; intro bN a9
     exact r_ (h_ (i_ (h_ (h_ (i_ (h_ (ra1 a9 (i6 (-1)) ⟨-1, rfl, a8, z.below⟩)))))))
    · -- no
     have ba := y.2 I
     refine k_ (sqB o z [] [] [(4, i6 1)] ?_); intro bO bb
     exact r_ (i_ (h_ (h_ (i_ (h_ (ra1 bb (i6 1) ⟨1, rfl, ba, z.below⟩))))))
   · -- no
    have aq := v.2 F
    refine l_ (j_ (t_ (rgB l x [] [] [(5, i6 (w64 (a - 1)))] ?_))); intro bP bc
    exact d_ ⟨w64 (a - 1), aq.1, aq.2, (bc.region (by kernel_rfl) (by kernel_rfl)).anyβ _ (by kernel_rfl), x.kp⟩
  · -- no
   have bd := u.2 C
   refine x_ (y_ (y_ (z_ (t_ (sqB h S [] [] [(4, i6 0)] ?_))))); intro bQ be
   exact r_ (ra1 be (i6 0) ⟨0, rfl, bd, S.below⟩)
end Go.Proofs.YtdndfbamhnchfaaGreatDoor
set_option linter.unusedVariables false
set_option linter.unusedSimpArgs false
set_option linter.defProp false
set_option maxRecDepth 100000
set_option maxHeartbeats 0
namespace Go.Proofs.YtdndfbamhnchfaaGreatDoor
open Go.Sy Go.RowKit
def gtrim_fun (u0 : List Int) (ao1 : Option Addr) (cap2 : Nat) (Z : Fz) (w : World) (hs3 : SlR (tyInt .u32) Z ao1 cap2 u0) (hZ : Z.on w) := fc_ (gtrim_walk u0 ao1 cap2 Z w hs3 hZ (gtrim_ok u0))
theorem gtwin_walk (u0 : List Int) (ao1 : Option Addr) (cap2 : Nat) (Z : Fz) (w : World) (hs3 : SlR (tyInt .u32) Z ao1 cap2 u0) (hZ : Z.on w) {K : (List Int) → Prop} (hp : gtwin_vc u0 K) : Calls Tryz.prog 83 #[.slice ao1 u0.length cap2] w fun e w' => ∃ (r : (List Int)) (ao1001 : Option Addr) (cap1002 : Nat) (Z' : Fz), e = .returned (.slice ao1001 r.length cap1002) ∧ K r ∧ Mem w.heap.size [] w Z [.own (tyInt .u32) 105 ao1001 cap1002 r] Z' w' := by
 refine enter0 Tryz.func83 rfl rfl (by kernel_rfl) ?_; intro u f; have c := Mem.start w Z hZ
 have l := hp (hs3.small)
 refine sqB f c [] [] [] ?_; intro x g
 refine sqH ?_; intro m h
 refine s1 g 3 (.slice ao1 u0.length cap2) ?_; intro y i
 have d : Mem w.heap.size [] w Z [.own (tyInt .u32) 105 none 0 ([] : List Int)] Z w := c.addNil (tyInt .u32) 105 (by decide)
 obtain ⟨n, o⟩ := l
 refine ap i d 0 (T := (tyInt .u32)) (xs := ([] : List Int)) (ys := u0) (ao := none) (cap := 0) (ao2 := ao1) (cap2 := cap2) (t := 71) (e := 105) (bytes := 4) (nog rfl _) rfl (by kernel_rfl) rfl (by kernel_rfl) (by kernel_rfl) (by kernel_rfl) rfl (Src.fz (by decide) d.fz hs3) n ?_; intro a b z p A j k
 have q : Mem w.heap.size [] w Z [.own (tyInt .u32) 105 a b (([] : List Int) ++ u0)] Z p := k
 refine s1 j 2 (.slice a (([] : List Int) ++ u0).length b) ?_; intro B s
 apply h
 exact r_ (ra1 s (.slice a (([] : List Int) ++ u0).length b) ⟨([] : List Int) ++ u0, a, b, Z, rfl, o, q.kp⟩)
theorem gwords_walk (u0 : Int)  (Z : Fz) (w : World)  (hZ : Z.on w) {K : (List Int) → Prop} (hp : gwords_vc u0 K) : Calls Tryz.prog 104 #[y6 u0] w fun e w' => ∃ (r : (List Int)) (ao1001 : Option Addr) (cap1002 : Nat) (Z' : Fz), e = .returned (.slice ao1001 r.length cap1002) ∧ K r ∧ SlR (tyInt .u32) Z' ao1001 cap1002 r ∧ Mem w.heap.size [] w Z [] Z' w' := by
 refine enter0 Tryz.func104 rfl rfl (by kernel_rfl) ?_; intro H j; have a := Mem.start w Z hZ
 refine sqB j a [] [] [] ?_; intro I k
 refine sqH ?_; intro z l
 refine bt k a 5 [] [] [(4, .int .u32 (wu32 u0)), (7, .int .u32 (wu32 (bShr .u64 u0 32)))] ?_; intro J m
 refine nw m a (fun b => .slice (sm b) 2 2) [.int .u32 (wu32 u0), .int .u32 (wu32 (bShr .u64 u0 32))] 105 ?_; intro d L n o p
 have A : Mem w.heap.size [] w Z [.own (tyInt .u32) 105 (sm d) 2 ([wu32 u0, wu32 (bShr .u64 u0 32)] : List Int)] Z n := p.rowOwn (T := (tyInt .u32)) (xs := ([wu32 u0, wu32 (bShr .u64 u0 32)] : List Int)) 0 rfl (by decide) (by show 2 ≤ lim; decide) ((RepAll.one (T := (tyInt .u32)) (x := wu32 u0) rfl).append (RepAll.one (T := (tyInt .u32)) (x := wu32 (bShr .u64 u0 32)) rfl))
 obtain ⟨B, C, q, f⟩ := A.freeze 0 rfl
 have g : Mem w.heap.size [] w Z [] B n := q
 refine ck o 105 #[.slice (sm d) ([wu32 u0, wu32 (bShr .u64 u0 32)] : List Int).length 2] ?_
 refine (gtrim_fun ([wu32 u0, wu32 (bShr .u64 u0 32)] : List Int) (sm d) 2 _ _ f g.fz).mono ?_; rintro _ D ⟨h, i, s, rfl, t, hm⟩; refine ⟨_, rfl, ?_⟩; intro M u; have v := g.callZ hm
 have E : Mem w.heap.size [] w Z [] s D := v
 have F := hp (t.small)
 refine s1 u 2 (.slice h (gtrimS ([wu32 u0, wu32 (bShr .u64 u0 32)] : List Int)).length i) ?_; intro N G
 apply l
 exact r_ (ra1 G (.slice h (gtrimS ([wu32 u0, wu32 (bShr .u64 u0 32)] : List Int)).length i) ⟨(gtrimS ([wu32 u0, wu32 (bShr .u64 u0 32)] : List Int)), h, i, s, rfl, F, t, E.kp⟩)
theorem gmul_walk (u0 : List Int) (u1 : List Int) (ao1 : Option Addr) (cap2 : Nat) (ao4 : Option Addr) (cap5 : Nat) (Z : Fz) (w : World) (hs3 : SlR (tyInt .u32) Z ao1 cap2 u0) (hs6 : SlR (tyInt .u32) Z ao4 cap5 u1) (hZ : Z.on w) {K : (List Int) → Prop} (hp : gmul_vc u0 u1 K) : Calls Tryz.prog 103 #[.slice ao1 u0.length cap2, .slice ao4 u1.length cap5] w fun e w' => ∃ (r : (List Int)) (ao1001 : Option Addr) (cap1002 : Nat) (Z' : Fz), e = .returned (.slice ao1001 r.length cap1002) ∧ K r ∧ SlR (tyInt .u32) Z' ao1001 cap1002 r ∧ Mem w.heap.size [] w Z [] Z' w' := by
 refine enter0 Tryz.func103 rfl rfl (by kernel_rfl) ?_; intro a0 V; have n := Mem.start w Z hZ
 have B := hp (hs3.small) (hs6.small)
 refine sqB V n [] [] [] ?_; intro b9 X
 refine s_ (sqB X n [] [] [(16, .bool (((u0.length : Int) == 0) || ((u1.length : Int) == 0)))] ?_); intro ca q
 refine c_ q B (fun _ a4 => ?_) fun _ a6 => ?_
 ·
  refine sqB q n [] [] [(4, .slice none 0 0)] ?_; intro cb a5
  exact r_ (h_ (ra1 a5 (.slice none 0 0) ⟨[], none, 0, Z, rfl, a4, (SlR.nil _ _), n.kp⟩))
 refine k_ (sqH ?_); intro a7 Y
 refine bt q n 5 [] [] [(21, i6 (w64 ((u0.length : Int) + (u1.length : Int))))] ?_; intro cc aa
 obtain ⟨ce, a8⟩ := a6
 refine mks aa n (T := (tyInt .u32)) (w64 ((u0.length : Int) + (u1.length : Int))) (w64 ((u0.length : Int) + (u1.length : Int))) (k := .i64) (k' := .i64) (e := 105) (bytes := 4) (zs := [.int .u32 0]) (z := 0) (by simp only [lim]; omega) (nog rfl _) rfl (by kernel_rfl) rfl (by kernel_rfl) (by kernel_rfl) (by kernel_rfl) (by kernel_rfl) rfl ?_; intro b cf a9 ab ac
 have I : Mem w.heap.size [] w Z [.own (tyInt .u32) 105 (sm b) (w64 ((u0.length : Int) + (u1.length : Int))).toNat (List.replicate (w64 ((u0.length : Int) + (u1.length : Int))).toNat (0 : Int))] Z a9 := ac
 refine s1 ab 5 (.slice (sm b) (List.replicate (w64 ((u0.length : Int) + (u1.length : Int))).toNat (0 : Int)).length (w64 ((u0.length : Int) + (u1.length : Int))).toNat) ?_; intro cg ad
 apply Y
 refine s_ (sqB ad I [] [] [(6, i6 0)] ?_); intro ae af
 apply b_
 have ag : Fr 75 [] [⟨0, [], .slice ao1 u0.length cap2⟩, ⟨1, [], .slice ao4 u1.length cap5⟩, ⟨5, [], .slice (sm b) (List.replicate (w64 ((u0.length : Int) + (u1.length : Int))).toNat (0 : Int)).length (w64 ((u0.length : Int) + (u1.length : Int))).toNat⟩, ⟨6, [], i6 0⟩] ae := af.reg
 obtain ⟨ba, bb, bc, bd⟩ := a8
 refine lp (ι := Int × (List Int)) (fun s => [⟨0, [], .slice ao1 u0.length cap2⟩, ⟨1, [], .slice ao4 u1.length cap5⟩, ⟨5, [], .slice (sm b) s.2.length (w64 ((u0.length : Int) + (u1.length : Int))).toNat⟩, ⟨6, [], i6 s.1⟩]) (fun s => [.own (tyInt .u32) 105 (sm b) (w64 ((u0.length : Int) + (u1.length : Int))).toNat s.2]) (fun s => Z) (fun s => ba s.1 s.2) (fun s => bb s.1 s.2) ⟨0, (List.replicate (w64 ((u0.length : Int) + (u1.length : Int))).toNat (0 : Int))⟩ bc (by exact ag.reg) (by exact I) ?_
 rintro ⟨a, m⟩ be bf ai aj ak
 have C := bd a m be
 refine s_ (sqB aj ak [] [] [(26, .bool (decide (a < (u0.length : Int))))] ?_); intro ch v
 refine c_ v C (fun _ bg => ?_) fun _ aV => ?_
 ·
  refine k_ (s_ (b_ (sqB v ak [] [] [(7, y6 0)] ?_))); intro ci am
  refine s_ (sqB am ak [] [] [(8, i6 0)] ?_); intro an ao
  apply b_
  have ap : Fr 75 [] [⟨0, [], .slice ao1 u0.length cap2⟩, ⟨1, [], .slice ao4 u1.length cap5⟩, ⟨5, [], .slice (sm b) m.length (w64 ((u0.length : Int) + (u1.length : Int))).toNat⟩, ⟨6, [], i6 a⟩, ⟨7, [], y6 0⟩, ⟨8, [], i6 0⟩] an := ao.reg
  obtain ⟨bh, bi, bj, bk⟩ := bg
  refine lp (ι := Int × Int × (List Int)) (fun s => [⟨0, [], .slice ao1 u0.length cap2⟩, ⟨1, [], .slice ao4 u1.length cap5⟩, ⟨5, [], .slice (sm b) s.2.2.length (w64 ((u0.length : Int) + (u1.length : Int))).toNat⟩, ⟨6, [], i6 a⟩, ⟨7, [], y6 s.1⟩, ⟨8, [], i6 s.2.1⟩]) (fun s => [.own (tyInt .u32) 105 (sm b) (w64 ((u0.length : Int) + (u1.length : Int))).toNat s.2.2]) (fun s => Z) (fun s => bh s.1 s.2.1 s.2.2) (fun s => bi s.1 s.2.1 s.2.2) ⟨0, 0, m⟩ bj (by exact ap.reg) (by exact ak) ?_
  rintro ⟨d, c, f⟩ bl bm bn ar au
  have D := bk d c f bl
  refine s_ (sqB ar au [] [] [(32, .bool (decide (c < (u1.length : Int))))] ?_); intro bo x
  refine c_ x D (fun _ bp => ?_) fun _ bV => ?_
  ·
   refine k_ (s_ (b_ ?_))
   have aw : Fr 75 [] [⟨0, [], .slice ao1 u0.length cap2⟩, ⟨1, [], .slice ao4 u1.length cap5⟩, ⟨5, [], .slice (sm b) f.length (w64 ((u0.length : Int) + (u1.length : Int))).toNat⟩, ⟨6, [], i6 a⟩, ⟨7, [], y6 d⟩, ⟨8, [], i6 c⟩] bo := x.reg
   refine wp_seq (rgS mixed au [(0, true), (1, true), (2, true), (6, true), (7, true), (12, true), (13, true), (14, true), (15, true), (3, true), (4, true), (5, true), (8, true), (9, true), (10, true), (11, true), (16, true), (17, true), (18, true), (19, true), (20, true), (21, true)] [] [0] [.own (tyInt .u32) 105 (sm b) (w64 ((u0.length : Int) + (u1.length : Int))).toNat f] ?_)
   intro bq ax cj y
   refine cS aw 9 [] [] [(35, y6 d), (36, .slice ao1 u0.length cap2), (37, i6 a), (41, .slice ao4 u1.length cap5), (42, i6 c), (47, .slice (sm b) f.length (w64 ((u0.length : Int) + (u1.length : Int))).toNat), (50, i6 (w64 (a + c)))] ?_; intro cm ay
   obtain ⟨br, az⟩ := bp
   refine cix rfl ay (T := (tyInt .u32)) (xs := u0) hs3 a br (k := .i64) (e := 105) (bytes := 4) (nog rfl _) rfl (by kernel_rfl) rfl (by kernel_rfl) (by kernel_rfl) (by kernel_rfl) ?_; intro bs bu bv i cn bw bx bz M
   have bA := az i bw
   obtain rfl : bv = ([.int .u32 i] : List Value) := bz
   refine cst rfl M (.int .u32 i) (nog rfl _) rfl (by kernel_rfl) (fun v152 hC => lz M hC.fz bx 0 (g := []) rfl (by kernel_rfl) (by kernel_rfl) (by kernel_rfl) rfl) ?_; intro co aA
   refine cS aA 1 [] [] [(40, y6 (wu64 i))] ?_; intro cp aB
   obtain ⟨bB, aC⟩ := bA
   refine cix rfl aB (T := (tyInt .u32)) (xs := u1) hs6 c bB (k := .i64) (e := 105) (bytes := 4) (nog rfl _) rfl (by kernel_rfl) rfl (by kernel_rfl) (by kernel_rfl) (by kernel_rfl) ?_; intro bC bD bE j cq bF bG bH N
   have bI := aC j bF
   obtain rfl : bE = ([.int .u32 j] : List Value) := bH
   refine cst rfl N (.int .u32 j) (nog rfl _) rfl (by kernel_rfl) (fun v170 hC => lz N hC.fz bG 0 (g := []) rfl (by kernel_rfl) (by kernel_rfl) (by kernel_rfl) rfl) ?_; intro cr aD
   refine cS aD 2 [] [] [(46, y6 (wu64 ((wu64 i) * (wu64 j))))] ?_; intro cs aE
   obtain ⟨bJ, aF⟩ := bI
   refine cixo rfl aE y 0 (T := (tyInt .u32)) (xs := f) (w64 (a + c)) bJ (k := .i64) (e := 105) (bytes := 4) (nog rfl _) rfl (by kernel_rfl) rfl (by kernel_rfl) (by kernel_rfl) rfl (by kernel_rfl) ?_; intro bK ct bL aG
   obtain rfl : b = bK := by simpa using bL
   obtain ⟨l, bM, bN⟩ := gxq aF (by first | omega | (simp only [List.length_set] at *; omega))
   refine clo1 rfl aG 0 (T := (tyInt .u32)) (xs := f) rfl (w64 (a + c)).toNat 0 bM [.int .u32 l] (fun _ h => h) (.int .u32 l) rfl (nog rfl _) rfl (by kernel_rfl) rfl (by kernel_rfl) (by kernel_rfl) ?_; intro cu aH
   refine cS aH 4 [] [] [(7, y6 (wu64 (d + (wu64 ((wu64 ((wu64 i) * (wu64 j))) + (wu64 l))))))] ?_; intro cv aI
   refine nS (ax _ _ ?_)
   refine t_ (sqH ?_); intro bO aJ
   refine bt aI y 6 [] [] [(56, .slice (sm b) f.length (w64 ((u0.length : Int) + (u1.length : Int))).toNat), (59, i6 (w64 (a + c))), (61, .int .u32 (wu32 (wu64 (d + (wu64 ((wu64 ((wu64 i) * (wu64 j))) + (wu64 l)))))))] ?_; intro cw aK
   obtain ⟨bP, aL⟩ := bN
   refine ixo aK y 0 (T := (tyInt .u32)) (xs := f) (w64 (a + c)) bP (k := .i64) (e := 105) (bytes := 4) (nog rfl _) rfl (by kernel_rfl) rfl (by kernel_rfl) (by kernel_rfl) rfl (by kernel_rfl) ?_; intro bQ bR bS E
   obtain rfl : b = bQ := by simpa using bS
   refine so E y 0 (T := (tyInt .u32)) (xs := f) (w64 (a + c)).toNat (wu32 (wu64 (d + (wu64 ((wu64 ((wu64 i) * (wu64 j))) + (wu64 l)))))) (u := .int .u32 (wu32 (wu64 (d + (wu64 ((wu64 ((wu64 i) * (wu64 j))) + (wu64 l))))))) (nog rfl _) rfl rfl (by kernel_rfl) rfl (by kernel_rfl) rfl (by kernel_rfl) (by first | omega | (simp only [List.length_set] at *; omega)) rfl ?_; intro bT aM
   have aN : Fr 75 [] [⟨0, [], .slice ao1 u0.length cap2⟩, ⟨1, [], .slice ao4 u1.length cap5⟩, ⟨5, [], .slice (sm b) (f.set (w64 (a + c)).toNat (wu32 (wu64 (d + (wu64 ((wu64 ((wu64 i) * (wu64 j))) + (wu64 l))))))).length (w64 ((u0.length : Int) + (u1.length : Int))).toNat⟩, ⟨6, [], i6 a⟩, ⟨7, [], y6 (wu64 (d + (wu64 ((wu64 ((wu64 i) * (wu64 j))) + (wu64 l)))))⟩, ⟨8, [], i6 c⟩, ⟨35, [], y6 d⟩, ⟨36, [], .slice ao1 u0.length cap2⟩, ⟨37, [], i6 a⟩, ⟨38, [], pt bs bu⟩, ⟨39, [], .int .u32 i⟩, ⟨40, [], y6 (wu64 i)⟩, ⟨41, [], .slice ao4 u1.length cap5⟩, ⟨42, [], i6 c⟩, ⟨43, [], pt bC bD⟩, ⟨44, [], .int .u32 j⟩, ⟨46, [], y6 (wu64 ((wu64 i) * (wu64 j)))⟩, ⟨47, [], .slice (sm b) (f.set (w64 (a + c)).toNat (wu32 (wu64 (d + (wu64 ((wu64 ((wu64 i) * (wu64 j))) + (wu64 l))))))).length (w64 ((u0.length : Int) + (u1.length : Int))).toNat⟩, ⟨50, [], i6 (w64 (a + c))⟩, ⟨51, [], .pointer (some ⟨b, (w64 (a + c)).toNat * 1, none⟩)⟩, ⟨52, [], .int .u32 l⟩, ⟨56, [], .slice (sm b) (f.set (w64 (a + c)).toNat (wu32 (wu64 (d + (wu64 ((wu64 ((wu64 i) * (wu64 j))) + (wu64 l))))))).length (w64 ((u0.length : Int) + (u1.length : Int))).toNat⟩, ⟨59, [], i6 (w64 (a + c))⟩, ⟨61, [], .int .u32 (wu32 (wu64 (d + (wu64 ((wu64 ((wu64 i) * (wu64 j))) + (wu64 l))))))⟩, ⟨62, [], .pointer (some ⟨b, (w64 (a + c)).toNat * 1, none⟩)⟩] bR := by (try simp only [List.length_set] at E); (try simp only [List.length_set]); exact E.reg
   have O : Mem w.heap.size [] w Z [.own (tyInt .u32) 105 (sm b) (w64 ((u0.length : Int) + (u1.length : Int))).toNat (f.set (w64 (a + c)).toNat (wu32 (wu64 (d + (wu64 ((wu64 ((wu64 i) * (wu64 j))) + (wu64 l)))))))] Z bT := aM
   apply aJ
   refine rgB aN O [] [] [(7, y6 (bShr .u64 (wu64 (d + (wu64 ((wu64 ((wu64 i) * (wu64 j))) + (wu64 l))))) 32))] ?_; intro cx aO
   refine j_ (t_ (rgB aO O [] [] [(8, i6 (w64 (c + 1)))] ?_)); intro cy bU
   exact d_ ⟨⟨bShr .u64 (wu64 (d + (wu64 ((wu64 ((wu64 i) * (wu64 j))) + (wu64 l))))) 32, w64 (c + 1), f.set (w64 (a + c)).toNat (wu32 (wu64 (d + (wu64 ((wu64 ((wu64 i) * (wu64 j))) + (wu64 l))))))⟩, aL.1, aL.2, (bU.reg).anyβ _ (by kernel_rfl), O.kp⟩
  refine x_ (y_ (y_ (z_ (t_ (rgH ?_))))); intro bW aP
  refine bt x au 7 [] [] [(65, .slice (sm b) f.length (w64 ((u0.length : Int) + (u1.length : Int))).toNat), (69, i6 (w64 (a + (u1.length : Int)))), (71, .int .u32 (wu32 d))] ?_; intro cz aQ
  obtain ⟨bX, aR⟩ := bV
  refine ixo aQ au 0 (T := (tyInt .u32)) (xs := f) (w64 (a + (u1.length : Int))) bX (k := .i64) (e := 105) (bytes := 4) (nog rfl _) rfl (by kernel_rfl) rfl (by kernel_rfl) (by kernel_rfl) rfl (by kernel_rfl) ?_; intro bY bZ b0 F
  obtain rfl : b = bY := by simpa using b0
  refine so F au 0 (T := (tyInt .u32)) (xs := f) (w64 (a + (u1.length : Int))).toNat (wu32 d) (u := .int .u32 (wu32 d)) (nog rfl _) rfl rfl (by kernel_rfl) rfl (by kernel_rfl) rfl (by kernel_rfl) (by first | omega | (simp only [List.length_set] at *; omega)) rfl ?_; intro b1 aS
  have aT : Fr 75 [] [⟨0, [], .slice ao1 u0.length cap2⟩, ⟨1, [], .slice ao4 u1.length cap5⟩, ⟨5, [], .slice (sm b) (f.set (w64 (a + (u1.length : Int))).toNat (wu32 d)).length (w64 ((u0.length : Int) + (u1.length : Int))).toNat⟩, ⟨6, [], i6 a⟩, ⟨7, [], y6 d⟩, ⟨8, [], i6 c⟩, ⟨32, [], .bool (decide (c < (u1.length : Int)))⟩, ⟨65, [], .slice (sm b) (f.set (w64 (a + (u1.length : Int))).toNat (wu32 d)).length (w64 ((u0.length : Int) + (u1.length : Int))).toNat⟩, ⟨69, [], i6 (w64 (a + (u1.length : Int)))⟩, ⟨71, [], .int .u32 (wu32 d)⟩, ⟨72, [], .pointer (some ⟨b, (w64 (a + (u1.length : Int))).toNat * 1, none⟩)⟩] bZ := by (try simp only [List.length_set] at F); (try simp only [List.length_set]); exact F.reg
  have aU : Mem w.heap.size [] w Z [.own (tyInt .u32) 105 (sm b) (w64 ((u0.length : Int) + (u1.length : Int))).toNat (f.set (w64 (a + (u1.length : Int))).toNat (wu32 d))] Z b1 := aS
  apply aP
  refine j_ (t_ (rgB aT aU [] [] [(6, i6 (w64 (a + 1)))] ?_)); intro cA b2
  exact d_ ⟨⟨w64 (a + 1), f.set (w64 (a + (u1.length : Int))).toNat (wu32 d)⟩, aR.1, aR.2, (b2.reg).anyβ _ (by kernel_rfl), aU.kp⟩
 refine x_ (y_ (y_ (z_ (t_ (sqH ?_))))); intro b3 aW
 refine s1 v 73 (.slice (sm b) m.length (w64 ((u0.length : Int) + (u1.length : Int))).toNat) ?_; intro cB aX
 obtain ⟨b4, P, aY, Q⟩ := ak.freeze 0 rfl
 have R : Mem w.heap.size [] w Z [] b4 ai := aY
 refine ck aX 105 #[.slice (sm b) m.length (w64 ((u0.length : Int) + (u1.length : Int))).toNat] ?_
 refine (gtrim_fun m (sm b) (w64 ((u0.length : Int) + (u1.length : Int))).toNat _ _ Q R.fz).mono ?_; rintro _ b5 ⟨S, U, aZ, rfl, a1, hm⟩; refine ⟨_, rfl, ?_⟩; intro cC a2; have a3 := R.callZ hm
 have b6 : Mem w.heap.size [] w Z [] aZ b5 := a3
 have b7 := aV (a1.small)
 refine s1 a2 4 (.slice S (gtrimS m).length U) ?_; intro cD b8
 apply aW
 exact r_ (ra1 b8 (.slice S (gtrimS m).length U) ⟨(gtrimS m), S, U, aZ, rfl, b7, a1, b6.kp⟩)
theorem gadd_walk (u0 : List Int) (u1 : List Int) (ao1 : Option Addr) (cap2 : Nat) (ao4 : Option Addr) (cap5 : Nat) (Z : Fz) (w : World) (hs3 : SlR (tyInt .u32) Z ao1 cap2 u0) (hs6 : SlR (tyInt .u32) Z ao4 cap5 u1) (hZ : Z.on w) {K : (List Int) → Prop} (hp : gadd_vc u0 u1 K) : Calls Tryz.prog 80 #[.slice ao1 u0.length cap2, .slice ao4 u1.length cap5] w fun e w' => ∃ (r : (List Int)) (ao1001 : Option Addr) (cap1002 : Nat) (Z' : Fz), e = .returned (.slice ao1001 r.length cap1002) ∧ K r ∧ SlR (tyInt .u32) Z' ao1001 cap1002 r ∧ Mem w.heap.size [] w Z [] Z' w' := by
 refine enter0 Tryz.func80 rfl rfl (by kernel_rfl) ?_; intro a0 am; have o := Mem.start w Z hZ
 have B := hp (hs3.small) (hs6.small)
 refine sqB am o [] [] [] ?_; intro d2 ao
 refine s_ (sqB ao o [] [] [(12, .bool (decide ((u0.length : Int) < (u1.length : Int))))] ?_); intro d3 q
 refine c_ q B (fun _ cb => ?_) fun _ c7 => ?_
 ·
  refine rgB q o [] [] [(0, .slice ao4 u1.length cap5), (1, .slice ao1 u0.length cap2)] ?_; intro d4 ap
  refine t_ (sqH ?_); intro cc aq
  refine bt ap o 3 [] [] [(17, i6 (w64 ((u1.length : Int) + 1)))] ?_; intro d5 ar
  obtain ⟨d6, ce⟩ := cb
  refine mks ar o (T := (tyInt .u32)) (w64 ((u1.length : Int) + 1)) (w64 ((u1.length : Int) + 1)) (k := .i64) (k' := .i64) (e := 105) (bytes := 4) (zs := [.int .u32 0]) (z := 0) (by simp only [lim]; omega) (nog rfl _) rfl (by kernel_rfl) rfl (by kernel_rfl) (by kernel_rfl) (by kernel_rfl) (by kernel_rfl) rfl ?_; intro f d7 cf au av
  have C : Mem w.heap.size [] w Z [.own (tyInt .u32) 105 (sm f) (w64 ((u1.length : Int) + 1)).toNat (List.replicate (w64 ((u1.length : Int) + 1)).toNat (0 : Int))] Z cf := av
  refine s1 au 5 (.slice (sm f) (List.replicate (w64 ((u1.length : Int) + 1)).toNat (0 : Int)).length (w64 ((u1.length : Int) + 1)).toNat) ?_; intro d8 aw
  apply aq
  refine sqB aw C [] [] [(6, y6 0)] ?_; intro d9 ax
  refine s_ (sqB ax C [] [] [(7, i6 0)] ?_); intro ay az
  apply b_
  have aA : Fr 58 [] [⟨0, [], .slice ao4 u1.length cap5⟩, ⟨1, [], .slice ao1 u0.length cap2⟩, ⟨5, [], .slice (sm f) (List.replicate (w64 ((u1.length : Int) + 1)).toNat (0 : Int)).length (w64 ((u1.length : Int) + 1)).toNat⟩, ⟨6, [], y6 0⟩, ⟨7, [], i6 0⟩] ay := az.reg
  obtain ⟨cg, ch, ci, cj⟩ := ce
  refine lp (ι := Int × Int × (List Int)) (fun s => [⟨0, [], .slice ao4 u1.length cap5⟩, ⟨1, [], .slice ao1 u0.length cap2⟩, ⟨5, [], .slice (sm f) s.2.2.length (w64 ((u1.length : Int) + 1)).toNat⟩, ⟨6, [], y6 s.1⟩, ⟨7, [], i6 s.2.1⟩]) (fun s => [.own (tyInt .u32) 105 (sm f) (w64 ((u1.length : Int) + 1)).toNat s.2.2]) (fun s => Z) (fun s => cg s.1 s.2.1 s.2.2) (fun s => ch s.1 s.2.1 s.2.2) ⟨0, 0, (List.replicate (w64 ((u1.length : Int) + 1)).toNat (0 : Int))⟩ ci (by exact aA.reg) (by exact C) ?_
  rintro ⟨a, b, g⟩ cl cm cn aC aD
  have D := cj a b g cl
  refine s_ (sqB aC aD [] [] [(22, .bool (decide (b < (u1.length : Int))))] ?_); intro ea v
  refine c_ v D (fun _ co => ?_) fun _ cU => ?_
  ·
   refine k_ (s_ (b_ (sqH ?_))); intro cp aF
   refine bt v aD 3 [] [] [(25, y6 a), (26, .slice ao4 u1.length cap5), (27, i6 b)] ?_; intro eb aG
   obtain ⟨cq, aH⟩ := co
   refine ix_ aG hs6 b cq .i64 105 4 ?_; intro aI aJ cr c ec cs ct cu aK
   have E := aH c cs
   obtain rfl : cr = ([.int .u32 c] : List Value) := cu
   refine z1 aK aD 29 ct 0 (.int .u32 c) rfl ?_; intro ed aL
   refine bt aL aD 3 [] [] [(6, y6 (wu64 (a + (wu64 c))))] ?_; intro ee aM
   apply aF
   refine s_ (sqB aM aD [] [] [(35, .bool (decide (b < (u0.length : Int))))] ?_); intro ef x
   refine c_ x E (fun _ cv => ?_) fun _ cM => ?_
   ·
    refine rgH ?_; intro cw aN
    refine bt x aD 3 [] [] [(36, y6 (wu64 (a + (wu64 c)))), (37, .slice ao1 u0.length cap2), (38, i6 b)] ?_; intro eg aO
    obtain ⟨cx, aP⟩ := cv
    refine ix_ aO hs3 b cx .i64 105 4 ?_; intro cy cz cA m eh cB cC cD aQ
    have cE := aP m cB
    obtain rfl : cA = ([.int .u32 m] : List Value) := cD
    refine z1 aQ aD 40 cC 0 (.int .u32 m) rfl ?_; intro ei aR
    refine bt aR aD 3 [] [] [(6, y6 (wu64 ((wu64 (a + (wu64 c))) + (wu64 m))))] ?_; intro ej aS
    apply aN
    refine t_ (sqH ?_); intro cF aT
    refine bt aS aD 4 [] [] [(43, .slice (sm f) g.length (w64 ((u1.length : Int) + 1)).toNat), (44, i6 b), (46, .int .u32 (wu32 (wu64 ((wu64 (a + (wu64 c))) + (wu64 m)))))] ?_; intro ek aU
    obtain ⟨cG, aV⟩ := cE
    refine ixo aU aD 0 (T := (tyInt .u32)) (xs := g) b cG (k := .i64) (e := 105) (bytes := 4) (nog rfl _) rfl (by kernel_rfl) rfl (by kernel_rfl) (by kernel_rfl) rfl (by kernel_rfl) ?_; intro cH cI cJ F
    obtain rfl : f = cH := by simpa using cJ
    refine so F aD 0 (T := (tyInt .u32)) (xs := g) b.toNat (wu32 (wu64 ((wu64 (a + (wu64 c))) + (wu64 m)))) (u := .int .u32 (wu32 (wu64 ((wu64 (a + (wu64 c))) + (wu64 m))))) (nog rfl _) rfl rfl (by kernel_rfl) rfl (by kernel_rfl) rfl (by kernel_rfl) (by first | omega | (simp only [List.length_set] at *; omega)) rfl ?_; intro cK aW
    have aX : Fr 58 [] [⟨0, [], .slice ao4 u1.length cap5⟩, ⟨1, [], .slice ao1 u0.length cap2⟩, ⟨5, [], .slice (sm f) (g.set b.toNat (wu32 (wu64 ((wu64 (a + (wu64 c))) + (wu64 m))))).length (w64 ((u1.length : Int) + 1)).toNat⟩, ⟨6, [], y6 (wu64 ((wu64 (a + (wu64 c))) + (wu64 m)))⟩, ⟨7, [], i6 b⟩, ⟨22, [], .bool (decide (b < (u1.length : Int)))⟩, ⟨25, [], y6 a⟩, ⟨26, [], .slice ao4 u1.length cap5⟩, ⟨27, [], i6 b⟩, ⟨28, [], pt aI aJ⟩, ⟨29, [], .int .u32 c⟩, ⟨35, [], .bool (decide (b < (u0.length : Int)))⟩, ⟨36, [], y6 (wu64 (a + (wu64 c)))⟩, ⟨37, [], .slice ao1 u0.length cap2⟩, ⟨38, [], i6 b⟩, ⟨39, [], pt cy cz⟩, ⟨40, [], .int .u32 m⟩, ⟨43, [], .slice (sm f) (g.set b.toNat (wu32 (wu64 ((wu64 (a + (wu64 c))) + (wu64 m))))).length (w64 ((u1.length : Int) + 1)).toNat⟩, ⟨44, [], i6 b⟩, ⟨46, [], .int .u32 (wu32 (wu64 ((wu64 (a + (wu64 c))) + (wu64 m))))⟩, ⟨47, [], .pointer (some ⟨f, b.toNat * 1, none⟩)⟩] cI := by (try simp only [List.length_set] at F); (try simp only [List.length_set]); exact F.reg
    have V : Mem w.heap.size [] w Z [.own (tyInt .u32) 105 (sm f) (w64 ((u1.length : Int) + 1)).toNat (g.set b.toNat (wu32 (wu64 ((wu64 (a + (wu64 c))) + (wu64 m)))))] Z cK := aW
    apply aT
    refine rgB aX V [] [] [(6, y6 (bShr .u64 (wu64 ((wu64 (a + (wu64 c))) + (wu64 m))) 32))] ?_; intro el aY
    refine j_ (t_ (rgB aY V [] [] [(7, i6 (w64 (b + 1)))] ?_)); intro em cL
    exact d_ ⟨⟨bShr .u64 (wu64 ((wu64 (a + (wu64 c))) + (wu64 m))) 32, w64 (b + 1), g.set b.toNat (wu32 (wu64 ((wu64 (a + (wu64 c))) + (wu64 m))))⟩, aV.1, aV.2, (cL.reg).anyβ _ (by kernel_rfl), V.kp⟩
   refine k_ (sqH ?_); intro cN aZ
   refine bt x aD 4 [] [] [(43, .slice (sm f) g.length (w64 ((u1.length : Int) + 1)).toNat), (44, i6 b), (46, .int .u32 (wu32 (wu64 (a + (wu64 c)))))] ?_; intro en a1
   obtain ⟨cO, a2⟩ := cM
   refine ixo a1 aD 0 (T := (tyInt .u32)) (xs := g) b cO (k := .i64) (e := 105) (bytes := 4) (nog rfl _) rfl (by kernel_rfl) rfl (by kernel_rfl) (by kernel_rfl) rfl (by kernel_rfl) ?_; intro cP cQ cR G
   obtain rfl : f = cP := by simpa using cR
   refine so G aD 0 (T := (tyInt .u32)) (xs := g) b.toNat (wu32 (wu64 (a + (wu64 c)))) (u := .int .u32 (wu32 (wu64 (a + (wu64 c))))) (nog rfl _) rfl rfl (by kernel_rfl) rfl (by kernel_rfl) rfl (by kernel_rfl) (by first | omega | (simp only [List.length_set] at *; omega)) rfl ?_; intro cS a3
   have a4 : Fr 58 [] [⟨0, [], .slice ao4 u1.length cap5⟩, ⟨1, [], .slice ao1 u0.length cap2⟩, ⟨5, [], .slice (sm f) (g.set b.toNat (wu32 (wu64 (a + (wu64 c))))).length (w64 ((u1.length : Int) + 1)).toNat⟩, ⟨6, [], y6 (wu64 (a + (wu64 c)))⟩, ⟨7, [], i6 b⟩, ⟨22, [], .bool (decide (b < (u1.length : Int)))⟩, ⟨25, [], y6 a⟩, ⟨26, [], .slice ao4 u1.length cap5⟩, ⟨27, [], i6 b⟩, ⟨28, [], pt aI aJ⟩, ⟨29, [], .int .u32 c⟩, ⟨35, [], .bool (decide (b < (u0.length : Int)))⟩, ⟨43, [], .slice (sm f) (g.set b.toNat (wu32 (wu64 (a + (wu64 c))))).length (w64 ((u1.length : Int) + 1)).toNat⟩, ⟨44, [], i6 b⟩, ⟨46, [], .int .u32 (wu32 (wu64 (a + (wu64 c))))⟩, ⟨47, [], .pointer (some ⟨f, b.toNat * 1, none⟩)⟩] cQ := by (try simp only [List.length_set] at G); (try simp only [List.length_set]); exact G.reg
   have W : Mem w.heap.size [] w Z [.own (tyInt .u32) 105 (sm f) (w64 ((u1.length : Int) + 1)).toNat (g.set b.toNat (wu32 (wu64 (a + (wu64 c)))))] Z cS := a3
   apply aZ
   refine rgB a4 W [] [] [(6, y6 (bShr .u64 (wu64 (a + (wu64 c))) 32))] ?_; intro eo a5
   refine j_ (t_ (rgB a5 W [] [] [(7, i6 (w64 (b + 1)))] ?_)); intro ep cT
   exact d_ ⟨⟨bShr .u64 (wu64 (a + (wu64 c))) 32, w64 (b + 1), g.set b.toNat (wu32 (wu64 (a + (wu64 c))))⟩, a2.1, a2.2, (cT.reg).anyβ _ (by kernel_rfl), W.kp⟩
  refine x_ (y_ (y_ (z_ (t_ (sqH ?_))))); intro cV a6
  refine bt v aD 5 [] [] [(50, .slice (sm f) g.length (w64 ((u1.length : Int) + 1)).toNat), (52, i6 (u1.length : Int)), (54, .int .u32 (wu32 a))] ?_; intro eq a7
  obtain ⟨cW, a8⟩ := cU
  refine ixo a7 aD 0 (T := (tyInt .u32)) (xs := g) (u1.length : Int) cW (k := .i64) (e := 105) (bytes := 4) (nog rfl _) rfl (by kernel_rfl) rfl (by kernel_rfl) (by kernel_rfl) rfl (by kernel_rfl) ?_; intro cX cY cZ H
  obtain rfl : f = cX := by simpa using cZ
  refine so H aD 0 (T := (tyInt .u32)) (xs := g) (u1.length : Int).toNat (wu32 a) (u := .int .u32 (wu32 a)) (nog rfl _) rfl rfl (by kernel_rfl) rfl (by kernel_rfl) rfl (by kernel_rfl) (by first | omega | (simp only [List.length_set] at *; omega)) rfl ?_; intro a9 ba
  have bb : Fr 58 [] [⟨0, [], .slice ao4 u1.length cap5⟩, ⟨1, [], .slice ao1 u0.length cap2⟩, ⟨5, [], .slice (sm f) (g.set (u1.length : Int).toNat (wu32 a)).length (w64 ((u1.length : Int) + 1)).toNat⟩, ⟨6, [], y6 a⟩, ⟨7, [], i6 b⟩, ⟨22, [], .bool (decide (b < (u1.length : Int)))⟩, ⟨50, [], .slice (sm f) (g.set (u1.length : Int).toNat (wu32 a)).length (w64 ((u1.length : Int) + 1)).toNat⟩, ⟨52, [], i6 (u1.length : Int)⟩, ⟨54, [], .int .u32 (wu32 a)⟩, ⟨55, [], .pointer (some ⟨f, (u1.length : Int).toNat * 1, none⟩)⟩] cY := by (try simp only [List.length_set] at H); (try simp only [List.length_set]); exact H.reg
  have c0 : Mem w.heap.size [] w Z [.own (tyInt .u32) 105 (sm f) (w64 ((u1.length : Int) + 1)).toNat (g.set (u1.length : Int).toNat (wu32 a))] Z a9 := ba
  apply a6
  refine sqH ?_; intro c1 bc
  refine s1 bb 56 (.slice (sm f) (g.set (u1.length : Int).toNat (wu32 a)).length (w64 ((u1.length : Int) + 1)).toNat) ?_; intro er bd
  obtain ⟨c2, X, be, Y⟩ := c0.freeze 0 rfl
  have aa : Mem w.heap.size [] w Z [] c2 a9 := be
  refine ck bd 105 #[.slice (sm f) (g.set (u1.length : Int).toNat (wu32 a)).length (w64 ((u1.length : Int) + 1)).toNat] ?_
  refine (gtrim_fun (g.set (u1.length : Int).toNat (wu32 a)) (sm f) (w64 ((u1.length : Int) + 1)).toNat _ _ Y aa.fz).mono ?_; rintro _ c3 ⟨ab, ac, bf, rfl, bg, hm⟩; refine ⟨_, rfl, ?_⟩; intro es bh; have bi := aa.callZ hm
  have c4 : Mem w.heap.size [] w Z [] bf c3 := bi
  have c5 := a8 (bg.small)
  refine s1 bh 4 (.slice ab (gtrimS (g.set (u1.length : Int).toNat (wu32 a))).length ac) ?_; intro et c6
  apply bc
  exact r_ (ra1 c6 (.slice ab (gtrimS (g.set (u1.length : Int).toNat (wu32 a))).length ac) ⟨(gtrimS (g.set (u1.length : Int).toNat (wu32 a))), ab, ac, bf, rfl, c5, bg, c4.kp⟩)
 refine k_ (sqH ?_); intro c8 bj
 refine bt q o 3 [] [] [(17, i6 (w64 ((u0.length : Int) + 1)))] ?_; intro eu bk
 obtain ⟨ev, c9⟩ := c7
 refine mks bk o (T := (tyInt .u32)) (w64 ((u0.length : Int) + 1)) (w64 ((u0.length : Int) + 1)) (k := .i64) (k' := .i64) (e := 105) (bytes := 4) (zs := [.int .u32 0]) (z := 0) (by simp only [lim]; omega) (nog rfl _) rfl (by kernel_rfl) rfl (by kernel_rfl) (by kernel_rfl) (by kernel_rfl) (by kernel_rfl) rfl ?_; intro h ew da bl bm
 have J : Mem w.heap.size [] w Z [.own (tyInt .u32) 105 (sm h) (w64 ((u0.length : Int) + 1)).toNat (List.replicate (w64 ((u0.length : Int) + 1)).toNat (0 : Int))] Z da := bm
 refine s1 bl 5 (.slice (sm h) (List.replicate (w64 ((u0.length : Int) + 1)).toNat (0 : Int)).length (w64 ((u0.length : Int) + 1)).toNat) ?_; intro ex bn
 apply bj
 refine sqB bn J [] [] [(6, y6 0)] ?_; intro ey bo
 refine s_ (sqB bo J [] [] [(7, i6 0)] ?_); intro bp bq
 apply b_
 have br : Fr 58 [] [⟨0, [], .slice ao1 u0.length cap2⟩, ⟨1, [], .slice ao4 u1.length cap5⟩, ⟨5, [], .slice (sm h) (List.replicate (w64 ((u0.length : Int) + 1)).toNat (0 : Int)).length (w64 ((u0.length : Int) + 1)).toNat⟩, ⟨6, [], y6 0⟩, ⟨7, [], i6 0⟩] bp := bq.reg
 obtain ⟨db, dc, dd, de⟩ := c9
 refine lp (ι := Int × Int × (List Int)) (fun s => [⟨0, [], .slice ao1 u0.length cap2⟩, ⟨1, [], .slice ao4 u1.length cap5⟩, ⟨5, [], .slice (sm h) s.2.2.length (w64 ((u0.length : Int) + 1)).toNat⟩, ⟨6, [], y6 s.1⟩, ⟨7, [], i6 s.2.1⟩]) (fun s => [.own (tyInt .u32) 105 (sm h) (w64 ((u0.length : Int) + 1)).toNat s.2.2]) (fun s => Z) (fun s => db s.1 s.2.1 s.2.2) (fun s => dc s.1 s.2.1 s.2.2) ⟨0, 0, (List.replicate (w64 ((u0.length : Int) + 1)).toNat (0 : Int))⟩ dd (by exact br.reg) (by exact J) ?_
 rintro ⟨a, b, i⟩ df dg dh bu bv
 have L := de a b i df
 refine s_ (sqB bu bv [] [] [(22, .bool (decide (b < (u0.length : Int))))] ?_); intro ez y
 refine c_ y L (fun _ di => ?_) fun _ dP => ?_
 ·
  refine k_ (s_ (b_ (sqH ?_))); intro dj bx
  refine bt y bv 3 [] [] [(25, y6 a), (26, .slice ao1 u0.length cap2), (27, i6 b)] ?_; intro eA bz
  obtain ⟨dk, bA⟩ := di
  refine ix_ bz hs3 b dk .i64 105 4 ?_; intro bB bC dl d eB dm dn dp bD
  have M := bA d dm
  obtain rfl : dl = ([.int .u32 d] : List Value) := dp
  refine z1 bD bv 29 dn 0 (.int .u32 d) rfl ?_; intro eC bE
  refine bt bE bv 3 [] [] [(6, y6 (wu64 (a + (wu64 d))))] ?_; intro eD bF
  apply bx
  refine s_ (sqB bF bv [] [] [(35, .bool (decide (b < (u1.length : Int))))] ?_); intro eE A
  refine c_ A M (fun _ dq => ?_) fun _ dH => ?_
  ·
   refine rgH ?_; intro dr bG
   refine bt A bv 3 [] [] [(36, y6 (wu64 (a + (wu64 d)))), (37, .slice ao4 u1.length cap5), (38, i6 b)] ?_; intro eF bH
   obtain ⟨ds, bI⟩ := dq
   refine ix_ bH hs6 b ds .i64 105 4 ?_; intro dt du dv n eG dw dx dy bJ
   have dz := bI n dw
   obtain rfl : dv = ([.int .u32 n] : List Value) := dy
   refine z1 bJ bv 40 dx 0 (.int .u32 n) rfl ?_; intro eH bK
   refine bt bK bv 3 [] [] [(6, y6 (wu64 ((wu64 (a + (wu64 d))) + (wu64 n))))] ?_; intro eI bL
   apply bG
   refine t_ (sqH ?_); intro dA bM
   refine bt bL bv 4 [] [] [(43, .slice (sm h) i.length (w64 ((u0.length : Int) + 1)).toNat), (44, i6 b), (46, .int .u32 (wu32 (wu64 ((wu64 (a + (wu64 d))) + (wu64 n)))))] ?_; intro eJ bN
   obtain ⟨dB, bO⟩ := dz
   refine ixo bN bv 0 (T := (tyInt .u32)) (xs := i) b dB (k := .i64) (e := 105) (bytes := 4) (nog rfl _) rfl (by kernel_rfl) rfl (by kernel_rfl) (by kernel_rfl) rfl (by kernel_rfl) ?_; intro dC dD dE N
   obtain rfl : h = dC := by simpa using dE
   refine so N bv 0 (T := (tyInt .u32)) (xs := i) b.toNat (wu32 (wu64 ((wu64 (a + (wu64 d))) + (wu64 n)))) (u := .int .u32 (wu32 (wu64 ((wu64 (a + (wu64 d))) + (wu64 n))))) (nog rfl _) rfl rfl (by kernel_rfl) rfl (by kernel_rfl) rfl (by kernel_rfl) (by first | omega | (simp only [List.length_set] at *; omega)) rfl ?_; intro dF bP
   have bQ : Fr 58 [] [⟨0, [], .slice ao1 u0.length cap2⟩, ⟨1, [], .slice ao4 u1.length cap5⟩, ⟨5, [], .slice (sm h) (i.set b.toNat (wu32 (wu64 ((wu64 (a + (wu64 d))) + (wu64 n))))).length (w64 ((u0.length : Int) + 1)).toNat⟩, ⟨6, [], y6 (wu64 ((wu64 (a + (wu64 d))) + (wu64 n)))⟩, ⟨7, [], i6 b⟩, ⟨22, [], .bool (decide (b < (u0.length : Int)))⟩, ⟨25, [], y6 a⟩, ⟨26, [], .slice ao1 u0.length cap2⟩, ⟨27, [], i6 b⟩, ⟨28, [], pt bB bC⟩, ⟨29, [], .int .u32 d⟩, ⟨35, [], .bool (decide (b < (u1.length : Int)))⟩, ⟨36, [], y6 (wu64 (a + (wu64 d)))⟩, ⟨37, [], .slice ao4 u1.length cap5⟩, ⟨38, [], i6 b⟩, ⟨39, [], pt dt du⟩, ⟨40, [], .int .u32 n⟩, ⟨43, [], .slice (sm h) (i.set b.toNat (wu32 (wu64 ((wu64 (a + (wu64 d))) + (wu64 n))))).length (w64 ((u0.length : Int) + 1)).toNat⟩, ⟨44, [], i6 b⟩, ⟨46, [], .int .u32 (wu32 (wu64 ((wu64 (a + (wu64 d))) + (wu64 n))))⟩, ⟨47, [], .pointer (some ⟨h, b.toNat * 1, none⟩)⟩] dD := by (try simp only [List.length_set] at N); (try simp only [List.length_set]); exact N.reg
   have af : Mem w.heap.size [] w Z [.own (tyInt .u32) 105 (sm h) (w64 ((u0.length : Int) + 1)).toNat (i.set b.toNat (wu32 (wu64 ((wu64 (a + (wu64 d))) + (wu64 n)))))] Z dF := bP
   apply bM
   refine rgB bQ af [] [] [(6, y6 (bShr .u64 (wu64 ((wu64 (a + (wu64 d))) + (wu64 n))) 32))] ?_; intro eK bR
   refine j_ (t_ (rgB bR af [] [] [(7, i6 (w64 (b + 1)))] ?_)); intro eL dG
   exact d_ ⟨⟨bShr .u64 (wu64 ((wu64 (a + (wu64 d))) + (wu64 n))) 32, w64 (b + 1), i.set b.toNat (wu32 (wu64 ((wu64 (a + (wu64 d))) + (wu64 n))))⟩, bO.1, bO.2, (dG.reg).anyβ _ (by kernel_rfl), af.kp⟩
  refine k_ (sqH ?_); intro dI bS
  refine bt A bv 4 [] [] [(43, .slice (sm h) i.length (w64 ((u0.length : Int) + 1)).toNat), (44, i6 b), (46, .int .u32 (wu32 (wu64 (a + (wu64 d)))))] ?_; intro eM bT
  obtain ⟨dJ, bU⟩ := dH
  refine ixo bT bv 0 (T := (tyInt .u32)) (xs := i) b dJ (k := .i64) (e := 105) (bytes := 4) (nog rfl _) rfl (by kernel_rfl) rfl (by kernel_rfl) (by kernel_rfl) rfl (by kernel_rfl) ?_; intro dK dL dM O
  obtain rfl : h = dK := by simpa using dM
  refine so O bv 0 (T := (tyInt .u32)) (xs := i) b.toNat (wu32 (wu64 (a + (wu64 d)))) (u := .int .u32 (wu32 (wu64 (a + (wu64 d))))) (nog rfl _) rfl rfl (by kernel_rfl) rfl (by kernel_rfl) rfl (by kernel_rfl) (by first | omega | (simp only [List.length_set] at *; omega)) rfl ?_; intro dN bV
  have bW : Fr 58 [] [⟨0, [], .slice ao1 u0.length cap2⟩, ⟨1, [], .slice ao4 u1.length cap5⟩, ⟨5, [], .slice (sm h) (i.set b.toNat (wu32 (wu64 (a + (wu64 d))))).length (w64 ((u0.length : Int) + 1)).toNat⟩, ⟨6, [], y6 (wu64 (a + (wu64 d)))⟩, ⟨7, [], i6 b⟩, ⟨22, [], .bool (decide (b < (u0.length : Int)))⟩, ⟨25, [], y6 a⟩, ⟨26, [], .slice ao1 u0.length cap2⟩, ⟨27, [], i6 b⟩, ⟨28, [], pt bB bC⟩, ⟨29, [], .int .u32 d⟩, ⟨35, [], .bool (decide (b < (u1.length : Int)))⟩, ⟨43, [], .slice (sm h) (i.set b.toNat (wu32 (wu64 (a + (wu64 d))))).length (w64 ((u0.length : Int) + 1)).toNat⟩, ⟨44, [], i6 b⟩, ⟨46, [], .int .u32 (wu32 (wu64 (a + (wu64 d))))⟩, ⟨47, [], .pointer (some ⟨h, b.toNat * 1, none⟩)⟩] dL := by (try simp only [List.length_set] at O); (try simp only [List.length_set]); exact O.reg
  have ag : Mem w.heap.size [] w Z [.own (tyInt .u32) 105 (sm h) (w64 ((u0.length : Int) + 1)).toNat (i.set b.toNat (wu32 (wu64 (a + (wu64 d)))))] Z dN := bV
  apply bS
  refine rgB bW ag [] [] [(6, y6 (bShr .u64 (wu64 (a + (wu64 d))) 32))] ?_; intro eN bX
  refine j_ (t_ (rgB bX ag [] [] [(7, i6 (w64 (b + 1)))] ?_)); intro eO dO
  exact d_ ⟨⟨bShr .u64 (wu64 (a + (wu64 d))) 32, w64 (b + 1), i.set b.toNat (wu32 (wu64 (a + (wu64 d))))⟩, bU.1, bU.2, (dO.reg).anyβ _ (by kernel_rfl), ag.kp⟩
 refine x_ (y_ (y_ (z_ (t_ (sqH ?_))))); intro dQ bY
 refine bt y bv 5 [] [] [(50, .slice (sm h) i.length (w64 ((u0.length : Int) + 1)).toNat), (52, i6 (u0.length : Int)), (54, .int .u32 (wu32 a))] ?_; intro eP bZ
 obtain ⟨dR, b0⟩ := dP
 refine ixo bZ bv 0 (T := (tyInt .u32)) (xs := i) (u0.length : Int) dR (k := .i64) (e := 105) (bytes := 4) (nog rfl _) rfl (by kernel_rfl) rfl (by kernel_rfl) (by kernel_rfl) rfl (by kernel_rfl) ?_; intro dS dT dU P
 obtain rfl : h = dS := by simpa using dU
 refine so P bv 0 (T := (tyInt .u32)) (xs := i) (u0.length : Int).toNat (wu32 a) (u := .int .u32 (wu32 a)) (nog rfl _) rfl rfl (by kernel_rfl) rfl (by kernel_rfl) rfl (by kernel_rfl) (by first | omega | (simp only [List.length_set] at *; omega)) rfl ?_; intro b1 b2
 have b3 : Fr 58 [] [⟨0, [], .slice ao1 u0.length cap2⟩, ⟨1, [], .slice ao4 u1.length cap5⟩, ⟨5, [], .slice (sm h) (i.set (u0.length : Int).toNat (wu32 a)).length (w64 ((u0.length : Int) + 1)).toNat⟩, ⟨6, [], y6 a⟩, ⟨7, [], i6 b⟩, ⟨22, [], .bool (decide (b < (u0.length : Int)))⟩, ⟨50, [], .slice (sm h) (i.set (u0.length : Int).toNat (wu32 a)).length (w64 ((u0.length : Int) + 1)).toNat⟩, ⟨52, [], i6 (u0.length : Int)⟩, ⟨54, [], .int .u32 (wu32 a)⟩, ⟨55, [], .pointer (some ⟨h, (u0.length : Int).toNat * 1, none⟩)⟩] dT := by (try simp only [List.length_set] at P); (try simp only [List.length_set]); exact P.reg
 have dV : Mem w.heap.size [] w Z [.own (tyInt .u32) 105 (sm h) (w64 ((u0.length : Int) + 1)).toNat (i.set (u0.length : Int).toNat (wu32 a))] Z b1 := b2
 apply bY
 refine sqH ?_; intro dW b4
 refine s1 b3 56 (.slice (sm h) (i.set (u0.length : Int).toNat (wu32 a)).length (w64 ((u0.length : Int) + 1)).toNat) ?_; intro eQ b5
 obtain ⟨dX, ah, b6, ai⟩ := dV.freeze 0 rfl
 have aj : Mem w.heap.size [] w Z [] dX b1 := b6
 refine ck b5 105 #[.slice (sm h) (i.set (u0.length : Int).toNat (wu32 a)).length (w64 ((u0.length : Int) + 1)).toNat] ?_
 refine (gtrim_fun (i.set (u0.length : Int).toNat (wu32 a)) (sm h) (w64 ((u0.length : Int) + 1)).toNat _ _ ai aj.fz).mono ?_; rintro _ dY ⟨ak, al, b7, rfl, b8, hm⟩; refine ⟨_, rfl, ?_⟩; intro eR b9; have ca := aj.callZ hm
 have dZ : Mem w.heap.size [] w Z [] b7 dY := ca
 have d0 := b0 (b8.small)
 refine s1 b9 4 (.slice ak (gtrimS (i.set (u0.length : Int).toNat (wu32 a))).length al) ?_; intro eS d1
 apply b4
 exact r_ (ra1 d1 (.slice ak (gtrimS (i.set (u0.length : Int).toNat (wu32 a))).length al) ⟨(gtrimS (i.set (u0.length : Int).toNat (wu32 a))), ak, al, b7, rfl, d0, b8, dZ.kp⟩)
theorem gsub_walk (u0 : List Int) (u1 : List Int) (ao1 : Option Addr) (cap2 : Nat) (ao4 : Option Addr) (cap5 : Nat) (Z : Fz) (w : World) (hs3 : SlR (tyInt .u32) Z ao1 cap2 u0) (hs6 : SlR (tyInt .u32) Z ao4 cap5 u1) (hZ : Z.on w) {K : (List Int) → Prop} (hp : gsub_vc u0 u1 K) : Calls Tryz.prog 82 #[.slice ao1 u0.length cap2, .slice ao4 u1.length cap5] w fun e w' => ∃ (r : (List Int)) (ao1001 : Option Addr) (cap1002 : Nat) (Z' : Fz), e = .returned (.slice ao1001 r.length cap1002) ∧ K r ∧ SlR (tyInt .u32) Z' ao1001 cap1002 r ∧ Mem w.heap.size [] w Z [] Z' w' := by
 refine enter0 Tryz.func82 rfl rfl (by kernel_rfl) ?_; intro a0 I; have l := Mem.start w Z hZ
 have aM := hp (hs3.small) (hs6.small)
 refine sqB I l [] [] [] ?_; intro bB L
 refine sqH ?_; intro aN M
 refine bt L l 2 [] [] [(10, i6 (u0.length : Int))] ?_; intro bC N
 obtain ⟨bD, aO⟩ := aM
 refine mks N l (T := (tyInt .u32)) (u0.length : Int) (u0.length : Int) (k := .i64) (k' := .i64) (e := 105) (bytes := 4) (zs := [.int .u32 0]) (z := 0) (by simp only [lim]; omega) (nog rfl _) rfl (by kernel_rfl) rfl (by kernel_rfl) (by kernel_rfl) (by kernel_rfl) (by kernel_rfl) rfl ?_; intro d bE aP O P
 have n : Mem w.heap.size [] w Z [.own (tyInt .u32) 105 (sm d) (u0.length : Int).toNat (List.replicate (u0.length : Int).toNat (0 : Int))] Z aP := P
 refine s1 O 5 (.slice (sm d) (List.replicate (u0.length : Int).toNat (0 : Int)).length (u0.length : Int).toNat) ?_; intro bF Q
 apply M
 refine sqB Q n [] [] [(6, y6 0)] ?_; intro bG R
 refine s_ (sqB R n [] [] [(7, i6 0)] ?_); intro S U
 apply b_
 have V : Fr 45 [] [⟨0, [], .slice ao1 u0.length cap2⟩, ⟨1, [], .slice ao4 u1.length cap5⟩, ⟨5, [], .slice (sm d) (List.replicate (u0.length : Int).toNat (0 : Int)).length (u0.length : Int).toNat⟩, ⟨6, [], y6 0⟩, ⟨7, [], i6 0⟩] S := U.reg
 obtain ⟨aQ, aR, aS, aT⟩ := aO
 refine lp (ι := Int × Int × (List Int)) (fun s => [⟨0, [], .slice ao1 u0.length cap2⟩, ⟨1, [], .slice ao4 u1.length cap5⟩, ⟨5, [], .slice (sm d) s.2.2.length (u0.length : Int).toNat⟩, ⟨6, [], y6 s.1⟩, ⟨7, [], i6 s.2.1⟩]) (fun s => [.own (tyInt .u32) 105 (sm d) (u0.length : Int).toNat s.2.2]) (fun s => Z) (fun s => aQ s.1 s.2.1 s.2.2) (fun s => aR s.1 s.2.1 s.2.2) ⟨0, 0, (List.replicate (u0.length : Int).toNat (0 : Int))⟩ aS (by exact V.reg) (by exact n) ?_
 rintro ⟨c, a, f⟩ aU aV X Y aa
 have o := aT c a f aU
 refine s_ (sqB Y aa [] [] [(15, .bool (decide (a < (u0.length : Int))))] ?_); intro bH i
 refine c_ i o (fun _ aW => ?_) fun _ aE => ?_
 ·
  refine k_ (s_ (b_ (sqH ?_))); intro aX ac
  refine bt i aa 2 [] [] [(18, .slice ao1 u0.length cap2), (19, i6 a)] ?_; intro bI ad
  obtain ⟨aY, ae⟩ := aW
  refine ix_ ad hs3 a aY .i64 105 4 ?_; intro af ag aZ b bJ a1 a2 a3 ah
  have p := ae b a1
  obtain rfl : aZ = ([.int .u32 b] : List Value) := a3
  refine z1 ah aa 21 a2 0 (.int .u32 b) rfl ?_; intro bK ai
  refine bt ai aa 4 [] [] [(8, y6 (wu64 ((wu64 b) - c)))] ?_; intro bL aj
  apply ac
  refine s_ (sqB aj aa [] [] [(28, .bool (decide (a < (u1.length : Int))))] ?_); intro bM j
  refine c_ j p (fun _ a4 => ?_) fun _ bl => ?_
  ·
   refine rgH ?_; intro a5 ak
   refine bt j aa 3 [] [] [(29, y6 (wu64 ((wu64 b) - c))), (30, .slice ao4 u1.length cap5), (31, i6 a)] ?_; intro bN al
   obtain ⟨a6, am⟩ := a4
   refine ix_ al hs6 a a6 .i64 105 4 ?_; intro a7 a8 a9 h bO ba bb bc an
   have bd := am h ba
   obtain rfl : a9 = ([.int .u32 h] : List Value) := bc
   refine z1 an aa 33 bb 0 (.int .u32 h) rfl ?_; intro bP ao
   refine bt ao aa 3 [] [] [(8, y6 (wu64 ((wu64 ((wu64 b) - c)) - (wu64 h))))] ?_; intro bQ ap
   apply ak
   refine t_ (sqH ?_); intro be aq
   refine bt ap aa 4 [] [] [(36, .slice (sm d) f.length (u0.length : Int).toNat), (37, i6 a), (39, .int .u32 (wu32 (wu64 ((wu64 ((wu64 b) - c)) - (wu64 h)))))] ?_; intro bR ar
   obtain ⟨bf, au⟩ := bd
   refine ixo ar aa 0 (T := (tyInt .u32)) (xs := f) a bf (k := .i64) (e := 105) (bytes := 4) (nog rfl _) rfl (by kernel_rfl) rfl (by kernel_rfl) (by kernel_rfl) rfl (by kernel_rfl) ?_; intro bg bh bi q
   obtain rfl : d = bg := by simpa using bi
   refine so q aa 0 (T := (tyInt .u32)) (xs := f) a.toNat (wu32 (wu64 ((wu64 ((wu64 b) - c)) - (wu64 h)))) (u := .int .u32 (wu32 (wu64 ((wu64 ((wu64 b) - c)) - (wu64 h))))) (nog rfl _) rfl rfl (by kernel_rfl) rfl (by kernel_rfl) rfl (by kernel_rfl) (by first | omega | (simp only [List.length_set] at *; omega)) rfl ?_; intro bj av
   have aw : Fr 45 [] [⟨0, [], .slice ao1 u0.length cap2⟩, ⟨1, [], .slice ao4 u1.length cap5⟩, ⟨5, [], .slice (sm d) (f.set a.toNat (wu32 (wu64 ((wu64 ((wu64 b) - c)) - (wu64 h))))).length (u0.length : Int).toNat⟩, ⟨6, [], y6 c⟩, ⟨7, [], i6 a⟩, ⟨8, [], y6 (wu64 ((wu64 ((wu64 b) - c)) - (wu64 h)))⟩, ⟨15, [], .bool (decide (a < (u0.length : Int)))⟩, ⟨18, [], .slice ao1 u0.length cap2⟩, ⟨19, [], i6 a⟩, ⟨20, [], pt af ag⟩, ⟨21, [], .int .u32 b⟩, ⟨28, [], .bool (decide (a < (u1.length : Int)))⟩, ⟨29, [], y6 (wu64 ((wu64 b) - c))⟩, ⟨30, [], .slice ao4 u1.length cap5⟩, ⟨31, [], i6 a⟩, ⟨32, [], pt a7 a8⟩, ⟨33, [], .int .u32 h⟩, ⟨36, [], .slice (sm d) (f.set a.toNat (wu32 (wu64 ((wu64 ((wu64 b) - c)) - (wu64 h))))).length (u0.length : Int).toNat⟩, ⟨37, [], i6 a⟩, ⟨39, [], .int .u32 (wu32 (wu64 ((wu64 ((wu64 b) - c)) - (wu64 h))))⟩, ⟨40, [], .pointer (some ⟨d, a.toNat * 1, none⟩)⟩] bh := by (try simp only [List.length_set] at q); (try simp only [List.length_set]); exact q.reg
   have B : Mem w.heap.size [] w Z [.own (tyInt .u32) 105 (sm d) (u0.length : Int).toNat (f.set a.toNat (wu32 (wu64 ((wu64 ((wu64 b) - c)) - (wu64 h)))))] Z bj := av
   apply aq
   refine rgB aw B [] [] [(6, y6 (bShr .u64 (wu64 ((wu64 ((wu64 b) - c)) - (wu64 h))) 63))] ?_; intro bS ax
   refine j_ (t_ (rgB ax B [] [] [(7, i6 (w64 (a + 1)))] ?_)); intro bT bk
   exact d_ ⟨⟨bShr .u64 (wu64 ((wu64 ((wu64 b) - c)) - (wu64 h))) 63, w64 (a + 1), f.set a.toNat (wu32 (wu64 ((wu64 ((wu64 b) - c)) - (wu64 h))))⟩, au.1, au.2, (bk.reg).anyβ _ (by kernel_rfl), B.kp⟩
  refine k_ (sqH ?_); intro bm ay
  refine bt j aa 4 [] [] [(36, .slice (sm d) f.length (u0.length : Int).toNat), (37, i6 a), (39, .int .u32 (wu32 (wu64 ((wu64 b) - c))))] ?_; intro bU az
  obtain ⟨bn, aA⟩ := bl
  refine ixo az aa 0 (T := (tyInt .u32)) (xs := f) a bn (k := .i64) (e := 105) (bytes := 4) (nog rfl _) rfl (by kernel_rfl) rfl (by kernel_rfl) (by kernel_rfl) rfl (by kernel_rfl) ?_; intro bo bp bq v
  obtain rfl : d = bo := by simpa using bq
  refine so v aa 0 (T := (tyInt .u32)) (xs := f) a.toNat (wu32 (wu64 ((wu64 b) - c))) (u := .int .u32 (wu32 (wu64 ((wu64 b) - c)))) (nog rfl _) rfl rfl (by kernel_rfl) rfl (by kernel_rfl) rfl (by kernel_rfl) (by first | omega | (simp only [List.length_set] at *; omega)) rfl ?_; intro br aB
  have aC : Fr 45 [] [⟨0, [], .slice ao1 u0.length cap2⟩, ⟨1, [], .slice ao4 u1.length cap5⟩, ⟨5, [], .slice (sm d) (f.set a.toNat (wu32 (wu64 ((wu64 b) - c)))).length (u0.length : Int).toNat⟩, ⟨6, [], y6 c⟩, ⟨7, [], i6 a⟩, ⟨8, [], y6 (wu64 ((wu64 b) - c))⟩, ⟨15, [], .bool (decide (a < (u0.length : Int)))⟩, ⟨18, [], .slice ao1 u0.length cap2⟩, ⟨19, [], i6 a⟩, ⟨20, [], pt af ag⟩, ⟨21, [], .int .u32 b⟩, ⟨28, [], .bool (decide (a < (u1.length : Int)))⟩, ⟨36, [], .slice (sm d) (f.set a.toNat (wu32 (wu64 ((wu64 b) - c)))).length (u0.length : Int).toNat⟩, ⟨37, [], i6 a⟩, ⟨39, [], .int .u32 (wu32 (wu64 ((wu64 b) - c)))⟩, ⟨40, [], .pointer (some ⟨d, a.toNat * 1, none⟩)⟩] bp := by (try simp only [List.length_set] at v); (try simp only [List.length_set]); exact v.reg
  have C : Mem w.heap.size [] w Z [.own (tyInt .u32) 105 (sm d) (u0.length : Int).toNat (f.set a.toNat (wu32 (wu64 ((wu64 b) - c))))] Z br := aB
  apply ay
  refine rgB aC C [] [] [(6, y6 (bShr .u64 (wu64 ((wu64 b) - c)) 63))] ?_; intro bV aD
  refine j_ (t_ (rgB aD C [] [] [(7, i6 (w64 (a + 1)))] ?_)); intro bW bs
  exact d_ ⟨⟨bShr .u64 (wu64 ((wu64 b) - c)) 63, w64 (a + 1), f.set a.toNat (wu32 (wu64 ((wu64 b) - c)))⟩, aA.1, aA.2, (bs.reg).anyβ _ (by kernel_rfl), C.kp⟩
 refine x_ (y_ (y_ (z_ (t_ (sqH ?_))))); intro bu aF
 refine s1 i 43 (.slice (sm d) f.length (u0.length : Int).toNat) ?_; intro bX aG
 obtain ⟨bv, D, aH, E⟩ := aa.freeze 0 rfl
 have F : Mem w.heap.size [] w Z [] bv X := aH
 refine ck aG 105 #[.slice (sm d) f.length (u0.length : Int).toNat] ?_
 refine (gtrim_fun f (sm d) (u0.length : Int).toNat _ _ E F.fz).mono ?_; rintro _ bw ⟨G, H, aI, rfl, aJ, hm⟩; refine ⟨_, rfl, ?_⟩; intro bY aK; have aL := F.callZ hm
 have bx : Mem w.heap.size [] w Z [] aI bw := aL
 have bz := aE (aJ.small)
 refine s1 aK 4 (.slice G (gtrimS f).length H) ?_; intro bZ bA
 apply aF
 exact r_ (ra1 bA (.slice G (gtrimS f).length H) ⟨(gtrimS f), G, H, aI, rfl, bz, aJ, bx.kp⟩)
theorem gleft_walk (u0 : List Int) (u1 : Int) (ao1 : Option Addr) (cap2 : Nat) (Z : Fz) (w : World) (hs3 : SlR (tyInt .u32) Z ao1 cap2 u0) (hZ : Z.on w) {K : (List Int) → Prop} (hp : gleft_vc u0 u1 K) : Calls Tryz.prog 79 #[.slice ao1 u0.length cap2, y6 u1] w fun e w' => ∃ (r : (List Int)) (ao1001 : Option Addr) (cap1002 : Nat) (Z' : Fz), e = .returned (.slice ao1001 r.length cap1002) ∧ K r ∧ SlR (tyInt .u32) Z' ao1001 cap1002 r ∧ Mem w.heap.size [] w Z [] Z' w' := by
 refine enter0 Tryz.func79 rfl rfl (by kernel_rfl) ?_; intro a0 I; have j := Mem.start w Z hZ
 have p := hp (hs3.small)
 refine sqB I j [] [] [] ?_; intro a6 J
 refine s_ (sqB J j [] [] [(12, .bool ((u0.length : Int) == 0))] ?_); intro bN m
 refine c_ m p (fun _ aN => ?_) fun _ aP => ?_
 ·
  refine sqB m j [] [] [(4, .slice none 0 0)] ?_; intro bO aO
  exact r_ (h_ (ra1 aO (.slice none 0 0) ⟨[], none, 0, Z, rfl, aN, (SlR.nil _ _), j.kp⟩))
 refine k_ (sqB m j [] [] [(5, i6 (w64 (wu64 (u1.tdiv 32)))), (6, y6 (u1.tmod 32))] ?_); intro bP L
 refine sqH ?_; intro aQ M
 refine bt L j 5 [] [] [(22, i6 (w64 ((w64 ((u0.length : Int) + (w64 (wu64 (u1.tdiv 32))))) + 1)))] ?_; intro bQ N
 obtain ⟨bR, aR⟩ := aP
 refine mks N j (T := (tyInt .u32)) (w64 ((w64 ((u0.length : Int) + (w64 (wu64 (u1.tdiv 32))))) + 1)) (w64 ((w64 ((u0.length : Int) + (w64 (wu64 (u1.tdiv 32))))) + 1)) (k := .i64) (k' := .i64) (e := 105) (bytes := 4) (zs := [.int .u32 0]) (z := 0) (by simp only [lim]; omega) (nog rfl _) rfl (by kernel_rfl) rfl (by kernel_rfl) (by kernel_rfl) (by kernel_rfl) (by kernel_rfl) rfl ?_; intro c bS aS O P
 have A : Mem w.heap.size [] w Z [.own (tyInt .u32) 105 (sm c) (w64 ((w64 ((u0.length : Int) + (w64 (wu64 (u1.tdiv 32))))) + 1)).toNat (List.replicate (w64 ((w64 ((u0.length : Int) + (w64 (wu64 (u1.tdiv 32))))) + 1)).toNat (0 : Int))] Z aS := P
 refine s1 O 7 (.slice (sm c) (List.replicate (w64 ((w64 ((u0.length : Int) + (w64 (wu64 (u1.tdiv 32))))) + 1)).toNat (0 : Int)).length (w64 ((w64 ((u0.length : Int) + (w64 (wu64 (u1.tdiv 32))))) + 1)).toNat) ?_; intro bT Q
 apply M
 refine s_ (sqB Q A [] [] [(8, i6 0)] ?_); intro R S
 apply b_
 have U : Fr 61 [] [⟨0, [], .slice ao1 u0.length cap2⟩, ⟨5, [], i6 (w64 (wu64 (u1.tdiv 32)))⟩, ⟨6, [], y6 (u1.tmod 32)⟩, ⟨7, [], .slice (sm c) (List.replicate (w64 ((w64 ((u0.length : Int) + (w64 (wu64 (u1.tdiv 32))))) + 1)).toNat (0 : Int)).length (w64 ((w64 ((u0.length : Int) + (w64 (wu64 (u1.tdiv 32))))) + 1)).toNat⟩, ⟨8, [], i6 0⟩] R := S.reg
 obtain ⟨aT, aU, aV, aW⟩ := aR
 refine lp (ι := Int × (List Int)) (fun s => [⟨0, [], .slice ao1 u0.length cap2⟩, ⟨5, [], i6 (w64 (wu64 (u1.tdiv 32)))⟩, ⟨6, [], y6 (u1.tmod 32)⟩, ⟨7, [], .slice (sm c) s.2.length (w64 ((w64 ((u0.length : Int) + (w64 (wu64 (u1.tdiv 32))))) + 1)).toNat⟩, ⟨8, [], i6 s.1⟩]) (fun s => [.own (tyInt .u32) 105 (sm c) (w64 ((w64 ((u0.length : Int) + (w64 (wu64 (u1.tdiv 32))))) + 1)).toNat s.2]) (fun s => Z) (fun s => aT s.1 s.2) (fun s => aU s.1 s.2) ⟨0, (List.replicate (w64 ((w64 ((u0.length : Int) + (w64 (wu64 (u1.tdiv 32))))) + 1)).toNat (0 : Int))⟩ aV (by exact U.reg) (by exact A) ?_
 rintro ⟨a, d⟩ aX aY W X Y
 have q := aW a d aX
 refine s_ (sqB X Y [] [] [(27, .bool (decide (a < (u0.length : Int))))] ?_); intro bU n
 refine c_ n q (fun _ aZ => ?_) fun _ aE => ?_
 ·
  refine k_ (s_ (b_ (sqH ?_))); intro a1 ab
  refine bt n Y 2 [] [] [(30, .slice ao1 u0.length cap2), (31, i6 a)] ?_; intro bV ac
  obtain ⟨a2, ad⟩ := aZ
  refine ix_ ac hs3 a a2 .i64 105 4 ?_; intro ae af a3 b bW a4 a5 a7 ag
  have a8 := ad b a4
  obtain rfl : a3 = ([.int .u32 b] : List Value) := a7
  refine z1 ag Y 33 a5 0 (.int .u32 b) rfl ?_; intro bX ah
  refine bt ah Y 2 [] [] [(34, y6 (wu64 b)), (35, y6 (u1.tmod 32))] ?_; intro bY C
  obtain ⟨a9, ba⟩ := a8
  refine u_ C (y6 (bShl .u64 (wu64 b) (u1.tmod 32))) (shl_run C (g := []) (k' := .u64) rfl (by kernel_rfl) (by kernel_rfl) a9 rfl) ?_; intro bZ ai
  refine s1 ai 9 (y6 (bShl .u64 (wu64 b) (u1.tmod 32))) ?_; intro b0 aj
  apply ab
  refine sqH ?_; intro bb ak
  refine bt aj Y 4 [] [] [(37, .slice (sm c) d.length (w64 ((w64 ((u0.length : Int) + (w64 (wu64 (u1.tdiv 32))))) + 1)).toNat), (40, i6 (w64 (a + (w64 (wu64 (u1.tdiv 32))))))] ?_; intro b1 al
  obtain ⟨bc, am⟩ := ba
  refine ixo al Y 0 (T := (tyInt .u32)) (xs := d) (w64 (a + (w64 (wu64 (u1.tdiv 32))))) bc (k := .i64) (e := 105) (bytes := 4) (nog rfl _) rfl (by kernel_rfl) rfl (by kernel_rfl) (by kernel_rfl) rfl (by kernel_rfl) ?_; intro bd b2 be an
  obtain rfl : c = bd := by simpa using be
  obtain ⟨f, bf, bg⟩ := gxq am (by first | omega | (simp only [List.length_set] at *; omega))
  obtain ⟨bh, bi, bj⟩ := own_el Y 0 (T := (tyInt .u32)) (xs := d) rfl (w64 (a + (w64 (wu64 (u1.tdiv 32))))).toNat bf
  obtain rfl : bh = ([.int .u32 f] : List Value) := bi
  refine lc1 an 42 (.int .u32 f) (bj 0 _ rfl) rfl ?_; intro b3 ao
  refine bt ao Y 3 [] [] [(45, .int .u32 (bOr .u32 f (wu32 (bShl .u64 (wu64 b) (u1.tmod 32)))))] ?_; intro b4 ap
  obtain ⟨bk, bl⟩ := bg
  refine ixo ap Y 0 (T := (tyInt .u32)) (xs := d) (w64 (a + (w64 (wu64 (u1.tdiv 32))))) bk (k := .i64) (e := 105) (bytes := 4) (nog rfl _) rfl (by kernel_rfl) rfl (by kernel_rfl) (by kernel_rfl) rfl (by kernel_rfl) ?_; intro bm bn bo v
  obtain rfl : c = bm := by simpa using bo
  refine so v Y 0 (T := (tyInt .u32)) (xs := d) (w64 (a + (w64 (wu64 (u1.tdiv 32))))).toNat (bOr .u32 f (wu32 (bShl .u64 (wu64 b) (u1.tmod 32)))) (u := .int .u32 (bOr .u32 f (wu32 (bShl .u64 (wu64 b) (u1.tmod 32))))) (nog rfl _) rfl rfl (by kernel_rfl) rfl (by kernel_rfl) rfl (by kernel_rfl) (by first | omega | (simp only [List.length_set] at *; omega)) rfl ?_; intro bp aq
  have ar : Fr 61 [] [⟨0, [], .slice ao1 u0.length cap2⟩, ⟨5, [], i6 (w64 (wu64 (u1.tdiv 32)))⟩, ⟨6, [], y6 (u1.tmod 32)⟩, ⟨7, [], .slice (sm c) (d.set (w64 (a + (w64 (wu64 (u1.tdiv 32))))).toNat (bOr .u32 f (wu32 (bShl .u64 (wu64 b) (u1.tmod 32))))).length (w64 ((w64 ((u0.length : Int) + (w64 (wu64 (u1.tdiv 32))))) + 1)).toNat⟩, ⟨8, [], i6 a⟩, ⟨9, [], y6 (bShl .u64 (wu64 b) (u1.tmod 32))⟩, ⟨27, [], .bool (decide (a < (u0.length : Int)))⟩, ⟨30, [], .slice ao1 u0.length cap2⟩, ⟨31, [], i6 a⟩, ⟨32, [], pt ae af⟩, ⟨33, [], .int .u32 b⟩, ⟨34, [], y6 (wu64 b)⟩, ⟨35, [], y6 (u1.tmod 32)⟩, ⟨36, [], y6 (bShl .u64 (wu64 b) (u1.tmod 32))⟩, ⟨37, [], .slice (sm c) (d.set (w64 (a + (w64 (wu64 (u1.tdiv 32))))).toNat (bOr .u32 f (wu32 (bShl .u64 (wu64 b) (u1.tmod 32))))).length (w64 ((w64 ((u0.length : Int) + (w64 (wu64 (u1.tdiv 32))))) + 1)).toNat⟩, ⟨40, [], i6 (w64 (a + (w64 (wu64 (u1.tdiv 32)))))⟩, ⟨41, [], .pointer (some ⟨c, (w64 (a + (w64 (wu64 (u1.tdiv 32))))).toNat * 1, none⟩)⟩, ⟨42, [], .int .u32 f⟩, ⟨45, [], .int .u32 (bOr .u32 f (wu32 (bShl .u64 (wu64 b) (u1.tmod 32))))⟩, ⟨46, [], .pointer (some ⟨c, (w64 (a + (w64 (wu64 (u1.tdiv 32))))).toNat * 1, none⟩)⟩] bn := by (try simp only [List.length_set] at v); (try simp only [List.length_set]); exact v.reg
  have l : Mem w.heap.size [] w Z [.own (tyInt .u32) 105 (sm c) (w64 ((w64 ((u0.length : Int) + (w64 (wu64 (u1.tdiv 32))))) + 1)).toNat (d.set (w64 (a + (w64 (wu64 (u1.tdiv 32))))).toNat (bOr .u32 f (wu32 (bShl .u64 (wu64 b) (u1.tmod 32)))))] Z bp := aq
  apply ak
  refine rgH ?_; intro bq au
  refine bt ar l 5 [] [] [(47, .slice (sm c) (d.set (w64 (a + (w64 (wu64 (u1.tdiv 32))))).toNat (bOr .u32 f (wu32 (bShl .u64 (wu64 b) (u1.tmod 32))))).length (w64 ((w64 ((u0.length : Int) + (w64 (wu64 (u1.tdiv 32))))) + 1)).toNat), (51, i6 (w64 ((w64 (a + (w64 (wu64 (u1.tdiv 32))))) + 1)))] ?_; intro b5 av
  obtain ⟨br, aw⟩ := bl
  refine ixo av l 0 (T := (tyInt .u32)) (xs := d.set (w64 (a + (w64 (wu64 (u1.tdiv 32))))).toNat (bOr .u32 f (wu32 (bShl .u64 (wu64 b) (u1.tmod 32))))) (w64 ((w64 (a + (w64 (wu64 (u1.tdiv 32))))) + 1)) br (k := .i64) (e := 105) (bytes := 4) (nog rfl _) rfl (by kernel_rfl) rfl (by kernel_rfl) (by kernel_rfl) rfl (by kernel_rfl) ?_; intro bs b6 bu ax
  obtain rfl : c = bs := by simpa using bu
  obtain ⟨i, bv, bw⟩ := gxq aw (by first | omega | (simp only [List.length_set] at *; omega))
  obtain ⟨bx, bz, bA⟩ := own_el l 0 (T := (tyInt .u32)) (xs := d.set (w64 (a + (w64 (wu64 (u1.tdiv 32))))).toNat (bOr .u32 f (wu32 (bShl .u64 (wu64 b) (u1.tmod 32))))) rfl (w64 ((w64 (a + (w64 (wu64 (u1.tdiv 32))))) + 1)).toNat bv
  obtain rfl : bx = ([.int .u32 i] : List Value) := bz
  refine lc1 ax 53 (.int .u32 i) (bA 0 _ rfl) rfl ?_; intro b7 ay
  refine bt ay l 4 [] [] [(57, .int .u32 (bOr .u32 i (wu32 (bShr .u64 (bShl .u64 (wu64 b) (u1.tmod 32)) 32))))] ?_; intro b8 az
  obtain ⟨bB, aA⟩ := bw
  refine ixo az l 0 (T := (tyInt .u32)) (xs := d.set (w64 (a + (w64 (wu64 (u1.tdiv 32))))).toNat (bOr .u32 f (wu32 (bShl .u64 (wu64 b) (u1.tmod 32))))) (w64 ((w64 (a + (w64 (wu64 (u1.tdiv 32))))) + 1)) bB (k := .i64) (e := 105) (bytes := 4) (nog rfl _) rfl (by kernel_rfl) rfl (by kernel_rfl) (by kernel_rfl) rfl (by kernel_rfl) ?_; intro bC bD bE x
  obtain rfl : c = bC := by simpa using bE
  refine so x l 0 (T := (tyInt .u32)) (xs := d.set (w64 (a + (w64 (wu64 (u1.tdiv 32))))).toNat (bOr .u32 f (wu32 (bShl .u64 (wu64 b) (u1.tmod 32))))) (w64 ((w64 (a + (w64 (wu64 (u1.tdiv 32))))) + 1)).toNat (bOr .u32 i (wu32 (bShr .u64 (bShl .u64 (wu64 b) (u1.tmod 32)) 32))) (u := .int .u32 (bOr .u32 i (wu32 (bShr .u64 (bShl .u64 (wu64 b) (u1.tmod 32)) 32)))) (nog rfl _) rfl rfl (by kernel_rfl) rfl (by kernel_rfl) rfl (by kernel_rfl) (by first | omega | (simp only [List.length_set] at *; omega)) rfl ?_; intro bF aB
  have aC : Fr 61 [] [⟨0, [], .slice ao1 u0.length cap2⟩, ⟨5, [], i6 (w64 (wu64 (u1.tdiv 32)))⟩, ⟨6, [], y6 (u1.tmod 32)⟩, ⟨7, [], .slice (sm c) ((d.set (w64 (a + (w64 (wu64 (u1.tdiv 32))))).toNat (bOr .u32 f (wu32 (bShl .u64 (wu64 b) (u1.tmod 32))))).set (w64 ((w64 (a + (w64 (wu64 (u1.tdiv 32))))) + 1)).toNat (bOr .u32 i (wu32 (bShr .u64 (bShl .u64 (wu64 b) (u1.tmod 32)) 32)))).length (w64 ((w64 ((u0.length : Int) + (w64 (wu64 (u1.tdiv 32))))) + 1)).toNat⟩, ⟨8, [], i6 a⟩, ⟨9, [], y6 (bShl .u64 (wu64 b) (u1.tmod 32))⟩, ⟨27, [], .bool (decide (a < (u0.length : Int)))⟩, ⟨30, [], .slice ao1 u0.length cap2⟩, ⟨31, [], i6 a⟩, ⟨32, [], pt ae af⟩, ⟨33, [], .int .u32 b⟩, ⟨34, [], y6 (wu64 b)⟩, ⟨35, [], y6 (u1.tmod 32)⟩, ⟨36, [], y6 (bShl .u64 (wu64 b) (u1.tmod 32))⟩, ⟨37, [], .slice (sm c) ((d.set (w64 (a + (w64 (wu64 (u1.tdiv 32))))).toNat (bOr .u32 f (wu32 (bShl .u64 (wu64 b) (u1.tmod 32))))).set (w64 ((w64 (a + (w64 (wu64 (u1.tdiv 32))))) + 1)).toNat (bOr .u32 i (wu32 (bShr .u64 (bShl .u64 (wu64 b) (u1.tmod 32)) 32)))).length (w64 ((w64 ((u0.length : Int) + (w64 (wu64 (u1.tdiv 32))))) + 1)).toNat⟩, ⟨40, [], i6 (w64 (a + (w64 (wu64 (u1.tdiv 32)))))⟩, ⟨41, [], .pointer (some ⟨c, (w64 (a + (w64 (wu64 (u1.tdiv 32))))).toNat * 1, none⟩)⟩, ⟨42, [], .int .u32 f⟩, ⟨45, [], .int .u32 (bOr .u32 f (wu32 (bShl .u64 (wu64 b) (u1.tmod 32))))⟩, ⟨46, [], .pointer (some ⟨c, (w64 (a + (w64 (wu64 (u1.tdiv 32))))).toNat * 1, none⟩)⟩, ⟨47, [], .slice (sm c) ((d.set (w64 (a + (w64 (wu64 (u1.tdiv 32))))).toNat (bOr .u32 f (wu32 (bShl .u64 (wu64 b) (u1.tmod 32))))).set (w64 ((w64 (a + (w64 (wu64 (u1.tdiv 32))))) + 1)).toNat (bOr .u32 i (wu32 (bShr .u64 (bShl .u64 (wu64 b) (u1.tmod 32)) 32)))).length (w64 ((w64 ((u0.length : Int) + (w64 (wu64 (u1.tdiv 32))))) + 1)).toNat⟩, ⟨51, [], i6 (w64 ((w64 (a + (w64 (wu64 (u1.tdiv 32))))) + 1))⟩, ⟨52, [], .pointer (some ⟨c, (w64 ((w64 (a + (w64 (wu64 (u1.tdiv 32))))) + 1)).toNat * 1, none⟩)⟩, ⟨53, [], .int .u32 i⟩, ⟨57, [], .int .u32 (bOr .u32 i (wu32 (bShr .u64 (bShl .u64 (wu64 b) (u1.tmod 32)) 32)))⟩, ⟨58, [], .pointer (some ⟨c, (w64 ((w64 (a + (w64 (wu64 (u1.tdiv 32))))) + 1)).toNat * 1, none⟩)⟩] bD := by (try simp only [List.length_set] at x); (try simp only [List.length_set]); exact x.reg
  have aD : Mem w.heap.size [] w Z [.own (tyInt .u32) 105 (sm c) (w64 ((w64 ((u0.length : Int) + (w64 (wu64 (u1.tdiv 32))))) + 1)).toNat ((d.set (w64 (a + (w64 (wu64 (u1.tdiv 32))))).toNat (bOr .u32 f (wu32 (bShl .u64 (wu64 b) (u1.tmod 32))))).set (w64 ((w64 (a + (w64 (wu64 (u1.tdiv 32))))) + 1)).toNat (bOr .u32 i (wu32 (bShr .u64 (bShl .u64 (wu64 b) (u1.tmod 32)) 32))))] Z bF := aB
  apply au
  refine j_ (t_ (rgB aC aD [] [] [(8, i6 (w64 (a + 1)))] ?_)); intro b9 bG
  exact d_ ⟨⟨w64 (a + 1), (d.set (w64 (a + (w64 (wu64 (u1.tdiv 32))))).toNat (bOr .u32 f (wu32 (bShl .u64 (wu64 b) (u1.tmod 32))))).set (w64 ((w64 (a + (w64 (wu64 (u1.tdiv 32))))) + 1)).toNat (bOr .u32 i (wu32 (bShr .u64 (bShl .u64 (wu64 b) (u1.tmod 32)) 32)))⟩, aA.1, aA.2, (bG.reg).anyβ _ (by kernel_rfl), aD.kp⟩
 refine x_ (y_ (y_ (z_ (t_ (sqH ?_))))); intro bH aF
 refine s1 n 59 (.slice (sm c) d.length (w64 ((w64 ((u0.length : Int) + (w64 (wu64 (u1.tdiv 32))))) + 1)).toNat) ?_; intro ca aG
 obtain ⟨bI, aH, aI, D⟩ := Y.freeze 0 rfl
 have E : Mem w.heap.size [] w Z [] bI W := aI
 refine ck aG 105 #[.slice (sm c) d.length (w64 ((w64 ((u0.length : Int) + (w64 (wu64 (u1.tdiv 32))))) + 1)).toNat] ?_
 refine (gtrim_fun d (sm c) (w64 ((w64 ((u0.length : Int) + (w64 (wu64 (u1.tdiv 32))))) + 1)).toNat _ _ D E.fz).mono ?_; rintro _ bJ ⟨F, G, aJ, rfl, aK, hm⟩; refine ⟨_, rfl, ?_⟩; intro cb aL; have aM := E.callZ hm
 have bK : Mem w.heap.size [] w Z [] aJ bJ := aM
 have bL := aE (aK.small)
 refine s1 aL 4 (.slice F (gtrimS d).length G) ?_; intro cc bM
 apply aF
 exact r_ (ra1 bM (.slice F (gtrimS d).length G) ⟨(gtrimS d), F, G, aJ, rfl, bL, aK, bK.kp⟩)
theorem gright_walk (u0 : List Int) (u1 : Int) (ao1 : Option Addr) (cap2 : Nat) (Z : Fz) (w : World) (hs3 : SlR (tyInt .u32) Z ao1 cap2 u0) (hZ : Z.on w) {K : (List Int) → Prop} (hp : gright_vc u0 u1 K) : Calls Tryz.prog 81 #[.slice ao1 u0.length cap2, y6 u1] w fun e w' => ∃ (r : (List Int)) (ao1001 : Option Addr) (cap1002 : Nat) (Z' : Fz), e = .returned (.slice ao1001 r.length cap1002) ∧ K r ∧ SlR (tyInt .u32) Z' ao1001 cap1002 r ∧ Mem w.heap.size [] w Z [] Z' w' := by
 refine enter0 Tryz.func81 rfl rfl (by kernel_rfl) ?_; intro a0 L; have i := Mem.start w Z hZ
 have o := hp (hs3.small)
 refine sqB L i [] [] [] ?_; intro a6 M
 refine sqB M i [] [] [(5, i6 (w64 (wu64 (u1.tdiv 32)))), (6, y6 (u1.tmod 32))] ?_; intro bM N
 refine s_ (sqB N i [] [] [(18, .bool (decide ((w64 (wu64 (u1.tdiv 32))) ≥ (u0.length : Int))))] ?_); intro bN j
 refine c_ j o (fun _ aQ => ?_) fun _ aS => ?_
 ·
  refine sqB j i [] [] [(4, .slice none 0 0)] ?_; intro bO aR
  exact r_ (h_ (ra1 aR (.slice none 0 0) ⟨[], none, 0, Z, rfl, aQ, (SlR.nil _ _), i.kp⟩))
 refine k_ (sqH ?_); intro aT O
 refine bt j i 4 [] [] [(22, i6 (w64 ((u0.length : Int) - (w64 (wu64 (u1.tdiv 32))))))] ?_; intro bP P
 obtain ⟨bQ, aU⟩ := aS
 refine mks P i (T := (tyInt .u32)) (w64 ((u0.length : Int) - (w64 (wu64 (u1.tdiv 32))))) (w64 ((u0.length : Int) - (w64 (wu64 (u1.tdiv 32))))) (k := .i64) (k' := .i64) (e := 105) (bytes := 4) (zs := [.int .u32 0]) (z := 0) (by simp only [lim]; omega) (nog rfl _) rfl (by kernel_rfl) rfl (by kernel_rfl) (by kernel_rfl) (by kernel_rfl) (by kernel_rfl) rfl ?_; intro d bR aV Q R
 have A : Mem w.heap.size [] w Z [.own (tyInt .u32) 105 (sm d) (w64 ((u0.length : Int) - (w64 (wu64 (u1.tdiv 32))))).toNat (List.replicate (w64 ((u0.length : Int) - (w64 (wu64 (u1.tdiv 32))))).toNat (0 : Int))] Z aV := R
 refine s1 Q 7 (.slice (sm d) (List.replicate (w64 ((u0.length : Int) - (w64 (wu64 (u1.tdiv 32))))).toNat (0 : Int)).length (w64 ((u0.length : Int) - (w64 (wu64 (u1.tdiv 32))))).toNat) ?_; intro bS S
 apply O
 refine s_ (sqB S A [] [] [(8, i6 0)] ?_); intro U V
 apply b_
 have W : Fr 64 [] [⟨0, [], .slice ao1 u0.length cap2⟩, ⟨5, [], i6 (w64 (wu64 (u1.tdiv 32)))⟩, ⟨6, [], y6 (u1.tmod 32)⟩, ⟨7, [], .slice (sm d) (List.replicate (w64 ((u0.length : Int) - (w64 (wu64 (u1.tdiv 32))))).toNat (0 : Int)).length (w64 ((u0.length : Int) - (w64 (wu64 (u1.tdiv 32))))).toNat⟩, ⟨8, [], i6 0⟩] U := V.reg
 obtain ⟨aW, aX, aY, aZ⟩ := aU
 refine lp (ι := Int × (List Int)) (fun s => [⟨0, [], .slice ao1 u0.length cap2⟩, ⟨5, [], i6 (w64 (wu64 (u1.tdiv 32)))⟩, ⟨6, [], y6 (u1.tmod 32)⟩, ⟨7, [], .slice (sm d) s.2.length (w64 ((u0.length : Int) - (w64 (wu64 (u1.tdiv 32))))).toNat⟩, ⟨8, [], i6 s.1⟩]) (fun s => [.own (tyInt .u32) 105 (sm d) (w64 ((u0.length : Int) - (w64 (wu64 (u1.tdiv 32))))).toNat s.2]) (fun s => Z) (fun s => aW s.1 s.2) (fun s => aX s.1 s.2) ⟨0, (List.replicate (w64 ((u0.length : Int) - (w64 (wu64 (u1.tdiv 32))))).toNat (0 : Int))⟩ aY (by exact W.reg) (by exact A) ?_
 rintro ⟨a, c⟩ a1 a2 Y aa ab
 have p := aZ a c a1
 refine s_ (sqB aa ab [] [] [(27, .bool (decide (a < (c.length : Int))))] ?_); intro bT l
 refine c_ l p (fun _ a3 => ?_) fun _ aH => ?_
 ·
  refine k_ (s_ (b_ (sqH ?_))); intro a4 ad
  refine bt l ab 4 [] [] [(30, .slice ao1 u0.length cap2), (33, i6 (w64 (a + (w64 (wu64 (u1.tdiv 32))))))] ?_; intro bU ae
  obtain ⟨a5, af⟩ := a3
  refine ix_ ae hs3 (w64 (a + (w64 (wu64 (u1.tdiv 32))))) a5 .i64 105 4 ?_; intro ag ah a7 b bV a8 a9 ba ai
  have q := af b a8
  obtain rfl : a7 = ([.int .u32 b] : List Value) := ba
  refine z1 ai ab 35 a9 0 (.int .u32 b) rfl ?_; intro bW aj
  refine bt aj ab 2 [] [] [(9, y6 (wu64 b))] ?_; intro bX ak
  apply ad
  refine s_ (sqB ak ab [] [] [(43, .bool (decide ((w64 ((w64 (a + (w64 (wu64 (u1.tdiv 32))))) + 1)) < (u0.length : Int))))] ?_); intro bY m
  refine c_ m q (fun _ bb => ?_) fun _ bv => ?_
  ·
   refine rgH ?_; intro bc al
   refine bt m ab 6 [] [] [(44, y6 (wu64 b)), (45, .slice ao1 u0.length cap2), (49, i6 (w64 ((w64 (a + (w64 (wu64 (u1.tdiv 32))))) + 1)))] ?_; intro bZ am
   obtain ⟨bd, an⟩ := bb
   refine ix_ am hs3 (w64 ((w64 (a + (w64 (wu64 (u1.tdiv 32))))) + 1)) bd .i64 105 4 ?_; intro be bf bg f b0 bh bi bj ao
   have bk := an f bh
   obtain rfl : bg = ([.int .u32 f] : List Value) := bj
   refine z1 ao ab 51 bi 0 (.int .u32 f) rfl ?_; intro b1 ap
   refine bt ap ab 4 [] [] [(9, y6 (bOr .u64 (wu64 b) (bShl .u64 (wu64 f) 32)))] ?_; intro b2 aq
   apply al
   refine t_ (rgH ?_); intro bl ar
   refine bt aq ab 4 [] [] [(55, .slice (sm d) c.length (w64 ((u0.length : Int) - (w64 (wu64 (u1.tdiv 32))))).toNat), (56, i6 a), (57, y6 (bOr .u64 (wu64 b) (bShl .u64 (wu64 f) 32))), (58, y6 (u1.tmod 32))] ?_; intro b3 D
   obtain ⟨bm, bn⟩ := bk
   refine u_ D (y6 (bShr .u64 (bOr .u64 (wu64 b) (bShl .u64 (wu64 f) 32)) (u1.tmod 32))) (shr_run D (g := []) (k' := .u64) rfl (by kernel_rfl) (by kernel_rfl) bm rfl) ?_; intro b4 au
   refine s1 au 60 (.int .u32 (wu32 (bShr .u64 (bOr .u64 (wu64 b) (bShl .u64 (wu64 f) 32)) (u1.tmod 32)))) ?_; intro b5 av
   obtain ⟨bo, aw⟩ := bn
   refine ixo av ab 0 (T := (tyInt .u32)) (xs := c) a bo (k := .i64) (e := 105) (bytes := 4) (nog rfl _) rfl (by kernel_rfl) rfl (by kernel_rfl) (by kernel_rfl) rfl (by kernel_rfl) ?_; intro bp bq br v
   obtain rfl : d = bp := by simpa using br
   refine so v ab 0 (T := (tyInt .u32)) (xs := c) a.toNat (wu32 (bShr .u64 (bOr .u64 (wu64 b) (bShl .u64 (wu64 f) 32)) (u1.tmod 32))) (u := .int .u32 (wu32 (bShr .u64 (bOr .u64 (wu64 b) (bShl .u64 (wu64 f) 32)) (u1.tmod 32)))) (nog rfl _) rfl rfl (by kernel_rfl) rfl (by kernel_rfl) rfl (by kernel_rfl) (by first | omega | (simp only [List.length_set] at *; omega)) rfl ?_; intro bs ax
   have ay : Fr 64 [] [⟨0, [], .slice ao1 u0.length cap2⟩, ⟨5, [], i6 (w64 (wu64 (u1.tdiv 32)))⟩, ⟨6, [], y6 (u1.tmod 32)⟩, ⟨7, [], .slice (sm d) (c.set a.toNat (wu32 (bShr .u64 (bOr .u64 (wu64 b) (bShl .u64 (wu64 f) 32)) (u1.tmod 32)))).length (w64 ((u0.length : Int) - (w64 (wu64 (u1.tdiv 32))))).toNat⟩, ⟨8, [], i6 a⟩, ⟨9, [], y6 (bOr .u64 (wu64 b) (bShl .u64 (wu64 f) 32))⟩, ⟨27, [], .bool (decide (a < (c.length : Int)))⟩, ⟨30, [], .slice ao1 u0.length cap2⟩, ⟨33, [], i6 (w64 (a + (w64 (wu64 (u1.tdiv 32)))))⟩, ⟨34, [], pt ag ah⟩, ⟨35, [], .int .u32 b⟩, ⟨43, [], .bool (decide ((w64 ((w64 (a + (w64 (wu64 (u1.tdiv 32))))) + 1)) < (u0.length : Int)))⟩, ⟨44, [], y6 (wu64 b)⟩, ⟨45, [], .slice ao1 u0.length cap2⟩, ⟨49, [], i6 (w64 ((w64 (a + (w64 (wu64 (u1.tdiv 32))))) + 1))⟩, ⟨50, [], pt be bf⟩, ⟨51, [], .int .u32 f⟩, ⟨55, [], .slice (sm d) (c.set a.toNat (wu32 (bShr .u64 (bOr .u64 (wu64 b) (bShl .u64 (wu64 f) 32)) (u1.tmod 32)))).length (w64 ((u0.length : Int) - (w64 (wu64 (u1.tdiv 32))))).toNat⟩, ⟨56, [], i6 a⟩, ⟨57, [], y6 (bOr .u64 (wu64 b) (bShl .u64 (wu64 f) 32))⟩, ⟨58, [], y6 (u1.tmod 32)⟩, ⟨59, [], y6 (bShr .u64 (bOr .u64 (wu64 b) (bShl .u64 (wu64 f) 32)) (u1.tmod 32))⟩, ⟨60, [], .int .u32 (wu32 (bShr .u64 (bOr .u64 (wu64 b) (bShl .u64 (wu64 f) 32)) (u1.tmod 32)))⟩, ⟨61, [], .pointer (some ⟨d, a.toNat * 1, none⟩)⟩] bq := by (try simp only [List.length_set] at v); (try simp only [List.length_set]); exact v.reg
   have az : Mem w.heap.size [] w Z [.own (tyInt .u32) 105 (sm d) (w64 ((u0.length : Int) - (w64 (wu64 (u1.tdiv 32))))).toNat (c.set a.toNat (wu32 (bShr .u64 (bOr .u64 (wu64 b) (bShl .u64 (wu64 f) 32)) (u1.tmod 32))))] Z bs := ax
   apply ar
   refine j_ (t_ (rgB ay az [] [] [(8, i6 (w64 (a + 1)))] ?_)); intro b6 bu
   exact d_ ⟨⟨w64 (a + 1), c.set a.toNat (wu32 (bShr .u64 (bOr .u64 (wu64 b) (bShl .u64 (wu64 f) 32)) (u1.tmod 32)))⟩, aw.1, aw.2, (bu.reg).anyβ _ (by kernel_rfl), az.kp⟩
  refine k_ (rgH ?_); intro bw aA
  refine bt m ab 4 [] [] [(55, .slice (sm d) c.length (w64 ((u0.length : Int) - (w64 (wu64 (u1.tdiv 32))))).toNat), (56, i6 a), (57, y6 (wu64 b)), (58, y6 (u1.tmod 32))] ?_; intro b7 E
  obtain ⟨bx, bz⟩ := bv
  refine u_ E (y6 (bShr .u64 (wu64 b) (u1.tmod 32))) (shr_run E (g := []) (k' := .u64) rfl (by kernel_rfl) (by kernel_rfl) bx rfl) ?_; intro b8 aB
  refine s1 aB 60 (.int .u32 (wu32 (bShr .u64 (wu64 b) (u1.tmod 32)))) ?_; intro b9 aC
  obtain ⟨bA, aD⟩ := bz
  refine ixo aC ab 0 (T := (tyInt .u32)) (xs := c) a bA (k := .i64) (e := 105) (bytes := 4) (nog rfl _) rfl (by kernel_rfl) rfl (by kernel_rfl) (by kernel_rfl) rfl (by kernel_rfl) ?_; intro bB bC bD x
  obtain rfl : d = bB := by simpa using bD
  refine so x ab 0 (T := (tyInt .u32)) (xs := c) a.toNat (wu32 (bShr .u64 (wu64 b) (u1.tmod 32))) (u := .int .u32 (wu32 (bShr .u64 (wu64 b) (u1.tmod 32)))) (nog rfl _) rfl rfl (by kernel_rfl) rfl (by kernel_rfl) rfl (by kernel_rfl) (by first | omega | (simp only [List.length_set] at *; omega)) rfl ?_; intro bE aE
  have aF : Fr 64 [] [⟨0, [], .slice ao1 u0.length cap2⟩, ⟨5, [], i6 (w64 (wu64 (u1.tdiv 32)))⟩, ⟨6, [], y6 (u1.tmod 32)⟩, ⟨7, [], .slice (sm d) (c.set a.toNat (wu32 (bShr .u64 (wu64 b) (u1.tmod 32)))).length (w64 ((u0.length : Int) - (w64 (wu64 (u1.tdiv 32))))).toNat⟩, ⟨8, [], i6 a⟩, ⟨9, [], y6 (wu64 b)⟩, ⟨27, [], .bool (decide (a < (c.length : Int)))⟩, ⟨30, [], .slice ao1 u0.length cap2⟩, ⟨33, [], i6 (w64 (a + (w64 (wu64 (u1.tdiv 32)))))⟩, ⟨34, [], pt ag ah⟩, ⟨35, [], .int .u32 b⟩, ⟨43, [], .bool (decide ((w64 ((w64 (a + (w64 (wu64 (u1.tdiv 32))))) + 1)) < (u0.length : Int)))⟩, ⟨55, [], .slice (sm d) (c.set a.toNat (wu32 (bShr .u64 (wu64 b) (u1.tmod 32)))).length (w64 ((u0.length : Int) - (w64 (wu64 (u1.tdiv 32))))).toNat⟩, ⟨56, [], i6 a⟩, ⟨57, [], y6 (wu64 b)⟩, ⟨58, [], y6 (u1.tmod 32)⟩, ⟨59, [], y6 (bShr .u64 (wu64 b) (u1.tmod 32))⟩, ⟨60, [], .int .u32 (wu32 (bShr .u64 (wu64 b) (u1.tmod 32)))⟩, ⟨61, [], .pointer (some ⟨d, a.toNat * 1, none⟩)⟩] bC := by (try simp only [List.length_set] at x); (try simp only [List.length_set]); exact x.reg
  have aG : Mem w.heap.size [] w Z [.own (tyInt .u32) 105 (sm d) (w64 ((u0.length : Int) - (w64 (wu64 (u1.tdiv 32))))).toNat (c.set a.toNat (wu32 (bShr .u64 (wu64 b) (u1.tmod 32))))] Z bE := aE
  apply aA
  refine j_ (t_ (rgB aF aG [] [] [(8, i6 (w64 (a + 1)))] ?_)); intro ca bF
  exact d_ ⟨⟨w64 (a + 1), c.set a.toNat (wu32 (bShr .u64 (wu64 b) (u1.tmod 32)))⟩, aD.1, aD.2, (bF.reg).anyβ _ (by kernel_rfl), aG.kp⟩
 refine x_ (y_ (y_ (z_ (t_ (sqH ?_))))); intro bG aI
 refine s1 l 62 (.slice (sm d) c.length (w64 ((u0.length : Int) - (w64 (wu64 (u1.tdiv 32))))).toNat) ?_; intro cb aJ
 obtain ⟨bH, aK, aL, F⟩ := ab.freeze 0 rfl
 have G : Mem w.heap.size [] w Z [] bH Y := aL
 refine ck aJ 105 #[.slice (sm d) c.length (w64 ((u0.length : Int) - (w64 (wu64 (u1.tdiv 32))))).toNat] ?_
 refine (gtrim_fun c (sm d) (w64 ((u0.length : Int) - (w64 (wu64 (u1.tdiv 32))))).toNat _ _ F G.fz).mono ?_; rintro _ bI ⟨H, I, aM, rfl, aN, hm⟩; refine ⟨_, rfl, ?_⟩; intro cc aO; have aP := G.callZ hm
 have bJ : Mem w.heap.size [] w Z [] aM bI := aP
 have bK := aH (aN.small)
 refine s1 aO 4 (.slice H (gtrimS c).length I) ?_; intro ce bL
 apply aI
 exact r_ (ra1 bL (.slice H (gtrimS c).length I) ⟨(gtrimS c), H, I, aM, rfl, bK, aN, bJ.kp⟩)
end Go.Proofs.YtdndfbamhnchfaaGreatDoor
set_option linter.unusedVariables false
set_option linter.unusedSimpArgs false
set_option linter.defProp false
set_option maxRecDepth 100000
set_option maxHeartbeats 0
namespace Go.Proofs.YtdndfbamhnchfaaGreatDoor
open Go.Sy Go.RowKit
abbrev e75Nc (X : BRat) (A0 : Option Addr) (C0 : Nat) (A1 : Option Addr) (C1 : Nat) : List Value := [.bool X.a.neg, .slice A0 X.a.abs.length C0, .bool X.b.neg, .slice A1 X.b.abs.length C1]
def gplain_fun (u0 : List Int) (hpre : wok u0) (ao1 : Option Addr) (cap2 : Nat) (Z : Fz) (w : World) (hs3 : SlR (tyInt .u32) Z ao1 cap2 u0) (hZ : Z.on w) := f_ (gplain_walk u0 ao1 cap2 Z w hs3 hZ (gplain_ok u0 hpre))
def gcmp_fun (u0 : List Int) (u1 : List Int) (hpre : u0.length ≤ 1000 ∧ u1.length ≤ 1000 ∧ u0 = ws (wv u0) ∧ u1 = ws (wv u1)) (ao1 : Option Addr) (cap2 : Nat) (ao4 : Option Addr) (cap5 : Nat) (Z : Fz) (w : World) (hs3 : SlR (tyInt .u32) Z ao1 cap2 u0) (hs6 : SlR (tyInt .u32) Z ao4 cap5 u1) (hZ : Z.on w) := f_ (gcmp_walk u0 u1 ao1 cap2 ao4 cap5 Z w hs3 hs6 hZ (gcmp_ok u0 u1 hpre))
def gtwin_fun (u0 : List Int) (hpre : u0.length ≤ 1000000) (ao1 : Option Addr) (cap2 : Nat) (Z : Fz) (w : World) (hs3 : SlR (tyInt .u32) Z ao1 cap2 u0) (hZ : Z.on w) := fc_ (gtwin_walk u0 ao1 cap2 Z w hs3 hZ (gtwin_ok u0 hpre))
def gwords_fun (u0 : Int) (hpre : 0 ≤ u0 ∧ u0 ≤ 18446744073709551615)  (Z : Fz) (w : World)  (hZ : Z.on w) := fc_ (gwords_walk u0  Z w  hZ (gwords_ok u0 hpre))
def gmul_fun (u0 : List Int) (u1 : List Int) (hpre : wok u0 ∧ wok u1 ∧ u0.length ≤ 1000 ∧ u1.length ≤ 1000) (ao1 : Option Addr) (cap2 : Nat) (ao4 : Option Addr) (cap5 : Nat) (Z : Fz) (w : World) (hs3 : SlR (tyInt .u32) Z ao1 cap2 u0) (hs6 : SlR (tyInt .u32) Z ao4 cap5 u1) (hZ : Z.on w) := fc_ (gmul_walk u0 u1 ao1 cap2 ao4 cap5 Z w hs3 hs6 hZ (gmul_ok u0 u1 hpre))
def gadd_fun (u0 : List Int) (u1 : List Int) (hpre : wok u0 ∧ wok u1 ∧ u0.length ≤ 1000000 ∧ u1.length ≤ 1000000) (ao1 : Option Addr) (cap2 : Nat) (ao4 : Option Addr) (cap5 : Nat) (Z : Fz) (w : World) (hs3 : SlR (tyInt .u32) Z ao1 cap2 u0) (hs6 : SlR (tyInt .u32) Z ao4 cap5 u1) (hZ : Z.on w) := fc_ (gadd_walk u0 u1 ao1 cap2 ao4 cap5 Z w hs3 hs6 hZ (gadd_ok u0 u1 hpre))
def gsub_fun (u0 : List Int) (u1 : List Int) (hpre : wok u0 ∧ wok u1 ∧ u0.length ≤ 1000 ∧ u1.length ≤ u0.length ∧ wv u1 ≤ wv u0) (ao1 : Option Addr) (cap2 : Nat) (ao4 : Option Addr) (cap5 : Nat) (Z : Fz) (w : World) (hs3 : SlR (tyInt .u32) Z ao1 cap2 u0) (hs6 : SlR (tyInt .u32) Z ao4 cap5 u1) (hZ : Z.on w) := fc_ (gsub_walk u0 u1 ao1 cap2 ao4 cap5 Z w hs3 hs6 hZ (gsub_ok u0 u1 hpre))
theorem gdiv_walk (u0 : List Int) (u1 : List Int) (ao1 : Option Addr) (cap2 : Nat) (ao4 : Option Addr) (cap5 : Nat) (Z : Fz) (w : World) (hs3 : SlR (tyInt .u32) Z ao1 cap2 u0) (hs6 : SlR (tyInt .u32) Z ao4 cap5 u1) (hZ : Z.on w) {K : ((List Int) × (List Int)) → Prop} (hp : gdiv_vc u0 u1 K) : Calls Tryz.prog 114 #[.slice ao1 u0.length cap2, .slice ao4 u1.length cap5] w fun e w' => ∃ (r : (List Int) × (List Int)) (ao1001 : Option Addr) (cap1002 : Nat) (ao1004 : Option Addr) (cap1005 : Nat) (Z' : Fz), e = .returned (.tuple #[.slice ao1001 r.1.length cap1002, .slice ao1004 r.2.length cap1005]) ∧ K r ∧ SlR (tyInt .u32) Z' ao1001 cap1002 r.1 ∧ SlR (tyInt .u32) Z' ao1004 cap1005 r.2 ∧ Mem w.heap.size [] w Z [] Z' w' := by
 refine enter0 Tryz.func114 rfl rfl (by kernel_rfl) ?_; intro a0 G; have c := Mem.start w Z hZ
 have an := hp (hs3.small) (hs6.small)
 refine sqB G c [] [] [] ?_; intro a2 I
 refine s_ (sqB I c [] [] [(30, .bool ((u1.length : Int) == 0))] ?_); intro a3 n
 obtain ⟨ao, ap⟩ := an
 refine cn n ao ?_
 refine k_ (s_ (sqH ?_)); intro aq J
 refine bt n c 2 [] [] [(31, .slice ao1 u0.length cap2), (32, .slice ao4 u1.length cap5)] ?_; intro a4 L
 obtain ⟨ar, i⟩ := ap
 refine fc L c (gcmp_fun u0 u1 ar ao1 cap2 ao4 cap5 _ _ hs3 hs6 c.fz) ?_; intro a5 a6 M b
 refine s1 M 34 (.bool (decide ((gcmpS u0 u1) < 0))) ?_; intro a7 f
 apply J
 refine c_ f i (fun _ au => ?_) fun _ aC => ?_
 ·
  refine sqH ?_; intro av N
  refine s1 f 35 (.slice ao1 u0.length cap2) ?_; intro a8 O
  obtain ⟨aw, P⟩ := au
  refine ck O 83 #[.slice ao1 u0.length cap2] ?_
  refine (gtwin_fun u0 aw ao1 cap2 _ _ hs3 b.fz).mono ?_; rintro _ Q ⟨j, k, ax, rfl, hm⟩; refine ⟨_, rfl, ?_⟩; intro a9 R; have S := b.callZ hm
  have q : Mem w.heap.size [] w Z [.own (tyInt .u32) 105 j k (gtwinS u0)] ax Q := S
  have ay := P (q.ownSmall 0 rfl)
  refine bt R q 2 [] [] [(4, .slice none 0 0), (5, .slice j (gtwinS u0).length k)] ?_; intro ba az
  apply N
  refine r_ (h_ ?_)
  obtain ⟨T, s, U, aA⟩ := q.freeze 0 rfl
  have aB : Mem w.heap.size [] w Z [] T Q := U
  exact ra2 az (.tuple #[.slice none 0 0, .slice j (gtwinS u0).length k]) ⟨([], (gtwinS u0)), none, 0, j, k, T, rfl, ay, (SlR.nil _ _), aA, aB.kp⟩
 refine k_ (s_ (sqB f b [] [] [(39, .bool (decide ((u0.length : Int) ≤ 2)))] ?_)); intro bb u
 obtain ⟨aD, aE⟩ := aC
 refine cy u aD ?_
 refine sqH ?_; intro aF V
 refine s1 u 40 (.slice ao1 u0.length cap2) ?_; intro bc W
 obtain ⟨aG, aH⟩ := aE
 refine fc W b (gplain_fun u0 aG ao1 cap2 _ _ hs3 b.fz) ?_; intro bd be X v
 refine s1 X 42 (.slice ao4 u1.length cap5) ?_; intro bf Y
 obtain ⟨aI, aJ⟩ := aH
 refine fc Y v (gplain_fun u1 aI ao4 cap5 _ _ hs6 v.fz) ?_; intro bg bh aa x
 refine bt aa x 2 [] [] [(6, y6 (gplainS u0)), (7, y6 (gplainS u1))] ?_; intro aK ab
 apply V
 have ac : Fr 273 [] [⟨6, [], y6 (gplainS u0)⟩, ⟨7, [], y6 (gplainS u1)⟩] aK := ab.reg
 refine wp_seq (rgS mixed x [(0, true), (1, true), (4, true), (5, true), (2, true), (6, true), (3, false), (7, false), (8, true), (9, true)] [] [] [] ?_)
 intro aL ad bi y
 have d := Fz.le.refl Z
 refine cS ac 4 [] [] [(44, y6 (gplainS u0)), (45, y6 (gplainS u1)), (48, y6 (gplainS u0)), (49, y6 (gplainS u1))] ?_; intro bj z
 obtain ⟨aM, aN⟩ := aJ
 refine cst rfl z (y6 (wu64 ((gplainS u0).tdiv (gplainS u1)))) (nog rfl _) rfl (by kernel_rfl) (fun v108 hC => quo_run z (g := []) rfl (by kernel_rfl) (by kernel_rfl) aM rfl) ?_; intro bk A
 obtain ⟨aO, aP⟩ := aN
 refine cst rfl A (y6 ((gplainS u0).tmod (gplainS u1))) (nog rfl _) rfl (by kernel_rfl) (fun v113 hC => rem_run A (g := []) rfl (by kernel_rfl) (by kernel_rfl) aO rfl) ?_; intro bl ae
 refine eS rfl ?_; intro aQ af
 obtain ⟨aR, aS⟩ := aP
 refine ck ae 104 #[y6 (wu64 ((gplainS u0).tdiv (gplainS u1)))] ?_
 refine (gwords_fun (wu64 ((gplainS u0).tdiv (gplainS u1))) aR _ _ y.fz).mono ?_; rintro _ aT ⟨B, C, aU, rfl, D, hm⟩; refine ⟨_, rfl, ?_⟩; intro bm ag; have ah := y.callZ hm; have l := hm.ext.le
 replace d := d.mono l
 have m : Mem w.heap.size [] w Z [] aU aT := ah
 refine nl (qnI (af _ _ (m.cst d []) ?_))
 refine eS rfl ?_; intro aV ai
 obtain ⟨aW, aX⟩ := aS
 refine ck ag 104 #[y6 ((gplainS u0).tmod (gplainS u1))] ?_
 refine (gwords_fun ((gplainS u0).tmod (gplainS u1)) aW _ _ m.fz).mono ?_; rintro _ aY ⟨E, F, aj, rfl, aZ, hm⟩; refine ⟨_, rfl, ?_⟩; intro bn ak; have al := m.callZ hm; have h := hm.ext.le
 replace d := d.mono h
 replace D := D.mono h
 have am : Mem w.heap.size [] w Z [] aj aY := al
 refine nl (qnI (ai _ _ (am.cst d []) ?_))
 refine cS ak 2 [] [] [(4, .slice B (gwordsS (wu64 ((gplainS u0).tdiv (gplainS u1)))).length C), (5, .slice E (gwordsS ((gplainS u0).tmod (gplainS u1))).length F)] ?_; intro bo a1
 refine nS (ad _ _ ?_)
 exact t_ (r_ (h_ (ra2 a1 (.tuple #[.slice B (gwordsS (wu64 ((gplainS u0).tdiv (gplainS u1)))).length C, .slice E (gwordsS ((gplainS u0).tmod (gplainS u1))).length F]) ⟨((gwordsS (wu64 ((gplainS u0).tdiv (gplainS u1)))), (gwordsS ((gplainS u0).tmod (gplainS u1)))), B, C, E, F, aj, rfl, aX, D, aZ, am.kp⟩)))
theorem gcom_walk (u0 : List Int) (u1 : List Int) (ao1 : Option Addr) (cap2 : Nat) (ao4 : Option Addr) (cap5 : Nat) (Z : Fz) (w : World) (hs3 : SlR (tyInt .u32) Z ao1 cap2 u0) (hs6 : SlR (tyInt .u32) Z ao4 cap5 u1) (hZ : Z.on w) {K : (List Int) → Prop} (hp : gcom_vc u0 u1 K) : Calls Tryz.prog 113 #[.slice ao1 u0.length cap2, .slice ao4 u1.length cap5] w fun e w' => ∃ (r : (List Int)) (ao1001 : Option Addr) (cap1002 : Nat) (Z' : Fz), e = .returned (.slice ao1001 r.length cap1002) ∧ K r ∧ SlR (tyInt .u32) Z' ao1001 cap1002 r ∧ Mem w.heap.size [] w Z [] Z' w' := by
 refine enter0 Tryz.func113 rfl rfl (by kernel_rfl) ?_; intro a0 H; have q := Mem.start w Z hZ
 have av := hp (hs3.small) (hs6.small)
 refine sqB H q [] [] [] ?_; intro L M
 refine s_ (b_ ?_)
 have N : Fr 49 [] [⟨0, [], .slice ao1 u0.length cap2⟩, ⟨1, [], .slice ao4 u1.length cap5⟩] L := M.reg
 obtain ⟨aw, ax, ay, az⟩ := av
 refine lp (ι := (List Int) × (List Int) × (Option Addr) × Nat × (Option Addr) × Nat) (fun s => [⟨0, [], .slice s.2.2.1 s.1.length s.2.2.2.1⟩, ⟨1, [], .slice s.2.2.2.2.1 s.2.1.length s.2.2.2.2.2⟩]) (fun s => []) (fun s => Z) (fun s => aw s.1 s.2.1 ∧ SlR (tyInt .u32) Z s.2.2.1 s.2.2.2.1 s.1 ∧ SlR (tyInt .u32) Z s.2.2.2.2.1 s.2.2.2.2.2 s.2.1) (fun s => ax s.1 s.2.1) ⟨u0, u1, ao1, cap2, ao4, cap5⟩ ⟨ay, hs3, hs6⟩ (by exact N.reg) (by exact q) ?_
 rintro ⟨b, d, h, i, u, v⟩ ⟨aA, n, x⟩ aB aC P Q
 have aD := az b d aA
 refine s_ (sqB P Q [] [] [(13, .bool (decide ((d.length : Int) > 2)))] ?_); intro ba y
 obtain ⟨aE, o⟩ := aD
 refine cn y aE ?_
 refine x_ (y_ (y_ (z_ (t_ (s_ (sqB y Q [] [] [(24, .bool ((d.length : Int) == 0))] ?_)))))); intro bb k
 refine c_ k o (fun _ aF => ?_) fun _ aH => ?_
 ·
  refine sqB k Q [] [] [(4, .slice h b.length i)] ?_; intro bc aG
  exact r_ (h_ (ra1 aG (.slice h b.length i) ⟨b, h, i, Z, rfl, aF, n, Q.kp⟩))
 refine k_ (s_ (sqB k Q [] [] [(28, .bool (decide ((b.length : Int) > 2)))] ?_)); intro bd A
 obtain ⟨aI, aJ⟩ := aH
 refine cn A aI ?_
 refine k_ (sqH ?_); intro aK S
 refine s1 A 37 (.slice h b.length i) ?_; intro be T
 obtain ⟨aL, aM⟩ := aJ
 refine fc T Q (gplain_fun b aL h i _ _ n Q.fz) ?_; intro bf bg U B
 refine s1 U 39 (.slice u d.length v) ?_; intro bh V
 obtain ⟨aN, aO⟩ := aM
 refine fc V B (gplain_fun d aN u v _ _ x B.fz) ?_; intro bi bj W C
 refine bt W C 2 [] [] [(9, y6 (gplainS b)), (10, y6 (gplainS d))] ?_; intro X Y
 apply S
 refine s_ (b_ ?_)
 have aa : Fr 49 [] [⟨9, [], y6 (gplainS b)⟩, ⟨10, [], y6 (gplainS d)⟩] X := Y.reg
 obtain ⟨aP, aQ, aR, aS⟩ := aO
 refine lp (ι := Int × Int) (fun s => [⟨9, [], y6 s.1⟩, ⟨10, [], y6 s.2⟩]) (fun s => []) (fun s => Z) (fun s => aP s.1 s.2) (fun s => aQ s.1 s.2) ⟨(gplainS b), (gplainS d)⟩ aR (by exact aa.reg) (by exact C) ?_
 rintro ⟨a, c⟩ aT aU aV ac ad
 have p := aS a c aT
 refine s_ (sqB ac ad [] [] [(42, .bool (decide (c > 0)))] ?_); intro aW l
 refine c_ l p (fun _ aX => ?_) fun _ a3 => ?_
 ·
  refine k_ (b_ ?_)
  have af : Fr 49 [] [⟨9, [], y6 a⟩, ⟨10, [], y6 c⟩] aW := l.reg
  refine qrgH mixed (by kernel_rfl) ad ?_; intro aY ag
  refine q1 af 43 (y6 c) ?_; intro bk ah
  refine q1 ah 44 (y6 a) ?_; intro bl ai
  refine q1 ai 45 (y6 c) ?_; intro bm E
  obtain ⟨aZ, aj⟩ := aX
  refine qu_ E (y6 (a.tmod c)) (fun v114 hC => rem_run E (g := []) rfl (by kernel_rfl) (by kernel_rfl) aZ rfl) ?_; intro bn ak
  refine q1 ak 9 (y6 c) ?_; intro bo al
  refine q1 al 10 (y6 (a.tmod c)) ?_; intro bp a1
  refine qnl (ag _ ?_); intro bq a2
  exact j_ (d_ ⟨⟨c, a.tmod c⟩, aj.1, aj.2, (a1.reg).anyβ _ (by kernel_rfl), a2.kp⟩)
 refine x_ (y_ (y_ (z_ (t_ (sqH ?_))))); intro a4 am
 refine s1 l 47 (y6 a) ?_; intro br an
 obtain ⟨a5, ao⟩ := a3
 refine ck an 104 #[y6 a] ?_
 refine (gwords_fun a a5 _ _ ad.fz).mono ?_; rintro _ a6 ⟨F, G, ap, rfl, aq, hm⟩; refine ⟨_, rfl, ?_⟩; intro bs ar; have au := ad.callZ hm
 have a7 : Mem w.heap.size [] w Z [] ap a6 := au
 have a8 := ao (aq.small)
 refine s1 ar 4 (.slice F (gwordsS a).length G) ?_; intro bu a9
 apply am
 exact r_ (ra1 a9 (.slice F (gwordsS a).length G) ⟨(gwordsS a), F, G, ap, rfl, a8, aq, a7.kp⟩)
theorem gsum_walk (u0 : Bool) (u1 : List Int) (u2 : Bool) (u3 : List Int) (ao1 : Option Addr) (cap2 : Nat) (ao4 : Option Addr) (cap5 : Nat) (Z : Fz) (w : World) (hs3 : SlR (tyInt .u32) Z ao1 cap2 u1) (hs6 : SlR (tyInt .u32) Z ao4 cap5 u3) (hZ : Z.on w) {K : (Bool × (List Int)) → Prop} (hp : gsum_vc u0 u1 u2 u3 K) : Calls Tryz.prog 102 #[.bool u0, .slice ao1 u1.length cap2, .bool u2, .slice ao4 u3.length cap5] w fun e w' => ∃ (r : Bool × (List Int)) (ao1001 : Option Addr) (cap1002 : Nat) (Z' : Fz), e = .returned (.tuple #[.bool r.1, .slice ao1001 r.2.length cap1002]) ∧ K r ∧ SlR (tyInt .u32) Z' ao1001 cap1002 r.2 ∧ Mem w.heap.size [] w Z [] Z' w' := by
 refine enter0 Tryz.func102 rfl rfl (by kernel_rfl) ?_; intro a0 v; have a := Mem.start w Z hZ
 have g := hp (hs3.small) (hs6.small)
 refine sqB v a [] [] [] ?_; intro az y
 refine s_ (sqB y a [] [] [(12, .bool (u0 == u2))] ?_); intro aA d
 refine c_ d g (fun _ ac => ?_) fun _ ai => ?_
 ·
  refine sqH ?_; intro ad z
  refine bt d a 3 [] [] [(13, .bool u0), (14, .slice ao1 u1.length cap2), (15, .slice ao4 u3.length cap5)] ?_; intro aB A
  obtain ⟨ae, B⟩ := ac
  refine ck A 80 #[.slice ao1 u1.length cap2, .slice ao4 u3.length cap5] ?_
  refine (gadd_fun u1 u3 ae ao1 cap2 ao4 cap5 _ _ hs3 hs6 a.fz).mono ?_; rintro _ af ⟨j, k, C, rfl, D, hm⟩; refine ⟨_, rfl, ?_⟩; intro aC E; have F := a.callZ hm
  have G : Mem w.heap.size [] w Z [] C af := F
  have ag := B (D.small)
  refine bt E G 2 [] [] [(8, .bool u0), (9, .slice j (gaddS u1 u3).length k)] ?_; intro aD ah
  apply z
  exact r_ (h_ (ra2 ah (.tuple #[.bool u0, .slice j (gaddS u1 u3).length k]) ⟨(u0, (gaddS u1 u3)), j, k, C, rfl, ag, D, G.kp⟩))
 refine k_ (s_ (sqH ?_)); intro aj H
 refine bt d a 2 [] [] [(17, .slice ao1 u1.length cap2), (18, .slice ao4 u3.length cap5)] ?_; intro aE I
 obtain ⟨ak, h⟩ := ai
 refine fc I a (gcmp_fun u1 u3 ak ao1 cap2 ao4 cap5 _ _ hs3 hs6 a.fz) ?_; intro aF aG J b
 refine s1 J 20 (.bool (decide ((gcmpS u1 u3) ≥ 0))) ?_; intro aH f
 apply H
 refine c_ f h (fun _ al => ?_) fun _ ar => ?_
 ·
  refine sqH ?_; intro am L
  refine bt f b 3 [] [] [(21, .bool u0), (22, .slice ao1 u1.length cap2), (23, .slice ao4 u3.length cap5)] ?_; intro aI M
  obtain ⟨an, N⟩ := al
  refine ck M 82 #[.slice ao1 u1.length cap2, .slice ao4 u3.length cap5] ?_
  refine (gsub_fun u1 u3 an ao1 cap2 ao4 cap5 _ _ hs3 hs6 b.fz).mono ?_; rintro _ ao ⟨n, o, O, rfl, P, hm⟩; refine ⟨_, rfl, ?_⟩; intro aJ Q; have R := b.callZ hm
  have S : Mem w.heap.size [] w Z [] O ao := R
  have ap := N (P.small)
  refine bt Q S 2 [] [] [(8, .bool u0), (9, .slice n (gsubS u1 u3).length o)] ?_; intro aK aq
  apply L
  exact r_ (h_ (ra2 aq (.tuple #[.bool u0, .slice n (gsubS u1 u3).length o]) ⟨(u0, (gsubS u1 u3)), n, o, O, rfl, ap, P, S.kp⟩))
 refine k_ (sqH ?_); intro au T
 refine bt f b 3 [] [] [(25, .bool u2), (26, .slice ao4 u3.length cap5), (27, .slice ao1 u1.length cap2)] ?_; intro aL U
 obtain ⟨av, V⟩ := ar
 refine ck U 82 #[.slice ao4 u3.length cap5, .slice ao1 u1.length cap2] ?_
 refine (gsub_fun u3 u1 av ao4 cap5 ao1 cap2 _ _ hs6 hs3 b.fz).mono ?_; rintro _ aw ⟨q, s, W, rfl, X, hm⟩; refine ⟨_, rfl, ?_⟩; intro aM Y; have aa := b.callZ hm
 have ab : Mem w.heap.size [] w Z [] W aw := aa
 have ax := V (X.small)
 refine bt Y ab 2 [] [] [(8, .bool u2), (9, .slice q (gsubS u3 u1).length s)] ?_; intro aN ay
 apply T
 exact r_ (ra2 ay (.tuple #[.bool u2, .slice q (gsubS u3 u1).length s]) ⟨(u2, (gsubS u3 u1)), q, s, W, rfl, ax, X, ab.kp⟩)
def gleft_fun (u0 : List Int) (u1 : Int) (hpre : wok u0 ∧ u0.length ≤ 1000 ∧ 0 ≤ u1 ∧ u1 ≤ 100000) (ao1 : Option Addr) (cap2 : Nat) (Z : Fz) (w : World) (hs3 : SlR (tyInt .u32) Z ao1 cap2 u0) (hZ : Z.on w) := fc_ (gleft_walk u0 u1 ao1 cap2 Z w hs3 hZ (gleft_ok u0 u1 hpre))
def gright_fun (u0 : List Int) (u1 : Int) (hpre : wok u0 ∧ u0.length ≤ 1000 ∧ 0 ≤ u1 ∧ u1 ≤ 31) (ao1 : Option Addr) (cap2 : Nat) (Z : Fz) (w : World) (hs3 : SlR (tyInt .u32) Z ao1 cap2 u0) (hZ : Z.on w) := fc_ (gright_walk u0 u1 ao1 cap2 Z w hs3 hZ (gright_ok u0 u1 hpre))
theorem ggive_walk (u0 : BInt) (u1 : Bool) (u2 : List Int) (b1 : Nat) (ao2 : Option Addr) (cap3 : Nat) (ao5 : Option Addr) (cap6 : Nat) (B : Nat) (w0 : World) (Z0 : Fz) (Rr : List Res) (Z : Fz) (w : World) (hs4 : SlR (tyInt .u32) Z ao2 cap3 u0.abs) (hs7 : SlR (tyInt .u32) Z ao5 cap6 u2) (hM0 : Mem B [] w0 Z0 ((.row b1 [.bool u0.neg, .slice ao2 u0.abs.length cap3] 73) :: Rr) Z w) (hZ : Z.on w) {K : BInt → Prop} (hp : ggive_vc u0 u1 u2 K) : Calls Tryz.prog 78 #[pt b1 0, .bool u1, .slice ao5 u2.length cap6] w fun e w' => ∃ (r : BInt) (ao1001 : Option Addr) (cap1002 : Nat) (Z' : Fz), e = .returned (pt b1 0) ∧ K r ∧ Fz.le Z Z' ∧ SlR (tyInt .u32) Z' ao1001 cap1002 r.abs ∧ Mem B [] w0 Z0 ((.row b1 [.bool r.neg, .slice ao1001 r.abs.length cap1002] 73) :: Rr) Z' w' := by
 refine enter0 Tryz.func78 rfl rfl (by kernel_rfl) ?_; intro u d; have m := Fz.le.refl Z
 have n := hp (hs4.small) (hs7.small)
 refine sqB d hM0 [] [] [] ?_; intro v g
 refine sqH ?_; intro o h
 refine bt g hM0 4 [] [] [(8, .slice ao5 u2.length cap6), (10, pt b1 1)] ?_; intro x a
 refine sx a hM0 0 [.bool u0.neg, .slice ao5 u2.length cap6] 1 ?_; intro p i
 have b : Mem B [] w0 Z0 ((.row b1 [.bool u0.neg, .slice ao5 u2.length cap6] 73) :: Rr) Z p := i
 apply h
 refine sqH ?_; intro q j
 refine bt a b 9 [] [] [(17, .bool (u1 && (decide ((u2.length : Int) > 0)))), (19, pt b1 0)] ?_; intro y c
 refine sx c b 0 [.bool (u1 && (decide ((u2.length : Int) > 0))), .slice ao5 u2.length cap6] 0 ?_; intro s k
 have l : Mem B [] w0 Z0 ((.row b1 [.bool (u1 && (decide ((u2.length : Int) > 0))), .slice ao5 u2.length cap6] 73) :: Rr) Z s := k
 apply j
 refine sqB c l [] [] [(6, pt b1 0)] ?_; intro z t
 exact r_ (ra1 t (pt b1 0) ⟨(⟨u1 && (decide ((u2.length : Int) > 0)), u2⟩ : BInt), ao5, cap6, Z, rfl, n, m, hs7, l.kp⟩)
def ggive_fun (u0 : BInt) (u1 : Bool) (u2 : List Int) (b1 : Nat) (ao2 : Option Addr) (cap3 : Nat) (ao5 : Option Addr) (cap6 : Nat) (B : Nat) (w0 : World) (Z0 : Fz) (Rr : List Res) (Z : Fz) (w : World) (hs4 : SlR (tyInt .u32) Z ao2 cap3 u0.abs) (hs7 : SlR (tyInt .u32) Z ao5 cap6 u2) (hM0 : Mem B [] w0 Z0 ((.row b1 [.bool u0.neg, .slice ao2 u0.abs.length cap3] 73) :: Rr) Z w) (hZ : Z.on w) := fc_ (ggive_walk u0 u1 u2 b1 ao2 cap3 ao5 cap6 B w0 Z0 Rr Z w hs4 hs7 hM0 hZ (ggive_ok u0 u1 u2))
theorem ggiveA_walk (u0 : BRat) (u1 : Bool) (u2 : List Int) (b1 : Nat) (ao2 : Option Addr) (cap3 : Nat) (ao5 : Option Addr) (cap6 : Nat) (ao8 : Option Addr) (cap9 : Nat) (B : Nat) (w0 : World) (Z0 : Fz) (Rr : List Res) (Z : Fz) (w : World) (hs4 : SlR (tyInt .u32) Z ao2 cap3 u0.a.abs) (hs7 : SlR (tyInt .u32) Z ao5 cap6 u0.b.abs) (hs10 : SlR (tyInt .u32) Z ao8 cap9 u2) (hM0 : Mem B [] w0 Z0 ((.row b1 [.bool u0.a.neg, .slice ao2 u0.a.abs.length cap3, .bool u0.b.neg, .slice ao5 u0.b.abs.length cap6] 75) :: Rr) Z w) (hZ : Z.on w) {K : BRat → Prop} (hp : ggiveA_vc u0 u1 u2 K) : Calls Tryz.prog 78 #[pt b1 0, .bool u1, .slice ao8 u2.length cap9] w fun e w' => ∃ (r : BRat) (ao1001 : Option Addr) (cap1002 : Nat) (ao1004 : Option Addr) (cap1005 : Nat) (Z' : Fz), e = .returned (pt b1 0) ∧ K r ∧ Fz.le Z Z' ∧ SlR (tyInt .u32) Z' ao1001 cap1002 r.a.abs ∧ SlR (tyInt .u32) Z' ao1004 cap1005 r.b.abs ∧ Mem B [] w0 Z0 ((.row b1 [.bool r.a.neg, .slice ao1001 r.a.abs.length cap1002, .bool r.b.neg, .slice ao1004 r.b.abs.length cap1005] 75) :: Rr) Z' w' := by
 refine enter0 Tryz.func78 rfl rfl (by kernel_rfl) ?_; intro y g; have p := Fz.le.refl Z
 have q := hp (hs4.small) (hs7.small) (hs10.small)
 refine sqB g hM0 [] [] [] ?_; intro z j
 refine sqH ?_; intro s k
 refine bt j hM0 4 [] [] [(8, .slice ao8 u2.length cap9), (10, pt b1 1)] ?_; intro A c
 refine sx c hM0 0 [.bool u0.a.neg, .slice ao8 u2.length cap9, .bool u0.b.neg, .slice ao5 u0.b.abs.length cap6] 1 ?_; intro t l
 have d : Mem B [] w0 Z0 ((.row b1 [.bool u0.a.neg, .slice ao8 u2.length cap9, .bool u0.b.neg, .slice ao5 u0.b.abs.length cap6] 75) :: Rr) Z t := l
 apply k
 refine sqH ?_; intro u m
 refine bt c d 9 [] [] [(17, .bool (u1 && (decide ((u2.length : Int) > 0)))), (19, pt b1 0)] ?_; intro C f
 refine sx f d 0 [.bool (u1 && (decide ((u2.length : Int) > 0))), .slice ao8 u2.length cap9, .bool u0.b.neg, .slice ao5 u0.b.abs.length cap6] 0 ?_; intro v n
 have o : Mem B [] w0 Z0 ((.row b1 [.bool (u1 && (decide ((u2.length : Int) > 0))), .slice ao8 u2.length cap9, .bool u0.b.neg, .slice ao5 u0.b.abs.length cap6] 75) :: Rr) Z v := n
 apply m
 refine sqB f o [] [] [(6, pt b1 0)] ?_; intro D x
 exact r_ (ra1 x (pt b1 0) ⟨(⟨(⟨u1 && (decide ((u2.length : Int) > 0)), u2⟩ : BInt), u0.b⟩ : BRat), ao8, cap9, ao5, cap6, Z, rfl, q, p, hs10, hs7, o.kp⟩)
def ggiveA_fun (u0 : BRat) (u1 : Bool) (u2 : List Int) (b1 : Nat) (ao2 : Option Addr) (cap3 : Nat) (ao5 : Option Addr) (cap6 : Nat) (ao8 : Option Addr) (cap9 : Nat) (B : Nat) (w0 : World) (Z0 : Fz) (Rr : List Res) (Z : Fz) (w : World) (hs4 : SlR (tyInt .u32) Z ao2 cap3 u0.a.abs) (hs7 : SlR (tyInt .u32) Z ao5 cap6 u0.b.abs) (hs10 : SlR (tyInt .u32) Z ao8 cap9 u2) (hM0 : Mem B [] w0 Z0 ((.row b1 [.bool u0.a.neg, .slice ao2 u0.a.abs.length cap3, .bool u0.b.neg, .slice ao5 u0.b.abs.length cap6] 75) :: Rr) Z w) (hZ : Z.on w) := fe_ (ggiveA_walk u0 u1 u2 b1 ao2 cap3 ao5 cap6 ao8 cap9 B w0 Z0 Rr Z w hs4 hs7 hs10 hM0 hZ (ggiveA_ok u0 u1 u2))
theorem ggiveB_walk (u0 : BRat) (u1 : Bool) (u2 : List Int) (b1 : Nat) (ao2 : Option Addr) (cap3 : Nat) (ao5 : Option Addr) (cap6 : Nat) (ao8 : Option Addr) (cap9 : Nat) (B : Nat) (w0 : World) (Z0 : Fz) (Rr : List Res) (Z : Fz) (w : World) (hs4 : SlR (tyInt .u32) Z ao2 cap3 u0.a.abs) (hs7 : SlR (tyInt .u32) Z ao5 cap6 u0.b.abs) (hs10 : SlR (tyInt .u32) Z ao8 cap9 u2) (hM0 : Mem B [] w0 Z0 ((.row b1 [.bool u0.a.neg, .slice ao2 u0.a.abs.length cap3, .bool u0.b.neg, .slice ao5 u0.b.abs.length cap6] 75) :: Rr) Z w) (hZ : Z.on w) {K : BRat → Prop} (hp : ggiveB_vc u0 u1 u2 K) : Calls Tryz.prog 78 #[pt b1 2, .bool u1, .slice ao8 u2.length cap9] w fun e w' => ∃ (r : BRat) (ao1001 : Option Addr) (cap1002 : Nat) (ao1004 : Option Addr) (cap1005 : Nat) (Z' : Fz), e = .returned (pt b1 2) ∧ K r ∧ Fz.le Z Z' ∧ SlR (tyInt .u32) Z' ao1001 cap1002 r.a.abs ∧ SlR (tyInt .u32) Z' ao1004 cap1005 r.b.abs ∧ Mem B [] w0 Z0 ((.row b1 [.bool r.a.neg, .slice ao1001 r.a.abs.length cap1002, .bool r.b.neg, .slice ao1004 r.b.abs.length cap1005] 75) :: Rr) Z' w' := by
 refine enter0 Tryz.func78 rfl rfl (by kernel_rfl) ?_; intro y g; have p := Fz.le.refl Z
 have q := hp (hs4.small) (hs7.small) (hs10.small)
 refine sqB g hM0 [] [] [] ?_; intro z j
 refine sqH ?_; intro s k
 refine bt j hM0 4 [] [] [(8, .slice ao8 u2.length cap9), (10, pt b1 3)] ?_; intro A c
 refine sx c hM0 0 [.bool u0.a.neg, .slice ao2 u0.a.abs.length cap3, .bool u0.b.neg, .slice ao8 u2.length cap9] 3 ?_; intro t l
 have d : Mem B [] w0 Z0 ((.row b1 [.bool u0.a.neg, .slice ao2 u0.a.abs.length cap3, .bool u0.b.neg, .slice ao8 u2.length cap9] 75) :: Rr) Z t := l
 apply k
 refine sqH ?_; intro u m
 refine bt c d 9 [] [] [(17, .bool (u1 && (decide ((u2.length : Int) > 0)))), (19, pt b1 2)] ?_; intro C f
 refine sx f d 0 [.bool u0.a.neg, .slice ao2 u0.a.abs.length cap3, .bool (u1 && (decide ((u2.length : Int) > 0))), .slice ao8 u2.length cap9] 2 ?_; intro v n
 have o : Mem B [] w0 Z0 ((.row b1 [.bool u0.a.neg, .slice ao2 u0.a.abs.length cap3, .bool (u1 && (decide ((u2.length : Int) > 0))), .slice ao8 u2.length cap9] 75) :: Rr) Z v := n
 apply m
 refine sqB f o [] [] [(6, pt b1 2)] ?_; intro D x
 exact r_ (ra1 x (pt b1 2) ⟨(⟨u0.a, (⟨u1 && (decide ((u2.length : Int) > 0)), u2⟩ : BInt)⟩ : BRat), ao2, cap3, ao8, cap9, Z, rfl, q, p, hs4, hs10, o.kp⟩)
def ggiveB_fun (u0 : BRat) (u1 : Bool) (u2 : List Int) (b1 : Nat) (ao2 : Option Addr) (cap3 : Nat) (ao5 : Option Addr) (cap6 : Nat) (ao8 : Option Addr) (cap9 : Nat) (B : Nat) (w0 : World) (Z0 : Fz) (Rr : List Res) (Z : Fz) (w : World) (hs4 : SlR (tyInt .u32) Z ao2 cap3 u0.a.abs) (hs7 : SlR (tyInt .u32) Z ao5 cap6 u0.b.abs) (hs10 : SlR (tyInt .u32) Z ao8 cap9 u2) (hM0 : Mem B [] w0 Z0 ((.row b1 [.bool u0.a.neg, .slice ao2 u0.a.abs.length cap3, .bool u0.b.neg, .slice ao5 u0.b.abs.length cap6] 75) :: Rr) Z w) (hZ : Z.on w) := fe_ (ggiveB_walk u0 u1 u2 b1 ao2 cap3 ao5 cap6 ao8 cap9 B w0 Z0 Rr Z w hs4 hs7 hs10 hM0 hZ (ggiveB_ok u0 u1 u2))
theorem gnew_walk (u0 : Int)  (Z : Fz) (w : World)  (hZ : Z.on w) {K : BInt → Prop} (hp : gnew_vc u0 K) : Calls Tryz.prog 48 #[i6 u0] w fun e w' => ∃ (r : BInt) (b1001 : Nat) (ao1002 : Option Addr) (cap1003 : Nat) (Z' : Fz), e = .returned (pt b1001 0) ∧ K r ∧ SlR (tyInt .u32) Z' ao1002 cap1003 r.abs ∧ Mem w.heap.size [] w Z [.row b1001 [.bool r.neg, .slice ao1002 r.abs.length cap1003] 73] Z' w' := by
 refine enter0 Tryz.func48 rfl rfl (by kernel_rfl) ?_; intro a0 z; have l := Mem.start w Z hZ
 refine sqB z l [] [] [] ?_; intro a2 A
 refine sqH ?_; intro B i
 refine nw A l pb [.bool false, .slice none 0 0] 73 ?_; intro a a6 aP C b
 refine s1 C 4 (i6 u0) ?_; intro aQ m
 refine ck m 77 #[pt a 0, i6 u0] ?_
 refine enter0 Tryz.func77 rfl rfl (by kernel_rfl) ?_; intro aR D
 refine sqB D b [] [] [] ?_; intro au E
 have F : Fr 18 [] [⟨0, [], pt a 0⟩, ⟨1, [], i6 u0⟩] au := E.reg
 refine sqB F b [] [] [(5, y6 (wu64 u0))] ?_; intro aS G
 refine s_ (sqB G b [] [] [(9, .bool (decide (u0 < 0)))] ?_); intro aT f
 refine c_ f hp (fun _ av => ?_) fun _ aF => ?_
 ·
  refine rgB f b [] [] [(5, y6 (wu64 (0 - (wu64 u0))))] ?_; intro aU H
  refine t_ (sqH ?_); intro aw I
  refine bt H b 4 [] [] [(12, pt a 0), (14, .bool (decide (u0 < 0))), (15, y6 (wu64 (0 - (wu64 u0))))] ?_; intro aV J
  obtain ⟨ax, L⟩ := av
  refine ck J 104 #[y6 (wu64 (0 - (wu64 u0)))] ?_
  refine (gwords_fun (wu64 (0 - (wu64 u0))) ax _ _ b.fz).mono ?_; rintro _ ay ⟨M, N, az, rfl, j, hm⟩; refine ⟨_, rfl, ?_⟩; intro aW O; have P := b.callZ hm
  have o : Mem w.heap.size [] w Z [.row a [.bool false, .slice none 0 0] 73] az ay := P
  have Q := L (j.small)
  refine ck O 78 #[pt a 0, .bool (decide (u0 < 0)), .slice M (gwordsS (wu64 (0 - (wu64 u0)))).length N] ?_
  obtain ⟨g, aB, R⟩ := hxq Q
  have d := ggive_fun (⟨false, []⟩ : BInt) (decide (u0 < 0)) (gwordsS (wu64 (0 - (wu64 u0)))) a none 0 M N _ _ _ _ _ _ (SlR.nil _ _) j o o.fz; rw [aB] at d; refine d.mono ?_; rintro _ S ⟨p, q, s, rfl, T, U, hm⟩; refine ⟨_, rfl, ?_⟩; intro aX V; have W := hm
  have X : Mem w.heap.size [] w Z [.row a [.bool g.neg, .slice p g.abs.length q] 73] s S := W
  have aC := R (U.small)
  refine s1 V 4 (pt a 0) ?_; intro aY Y
  apply I
  refine r_ (ra1 Y (pt a 0) ?_)
  refine ⟨_, rfl, ?_⟩; intro aZ aa
  refine s1 aa 2 (pt a 0) ?_; intro a1 aD
  have aE : Mem w.heap.size [] w Z [.row a [.bool g.neg, .slice p g.abs.length q] 73] s S := X
  apply i
  exact r_ (ra1 aD (pt a 0) ⟨g, a, p, q, s, rfl, aC, U, aE.kp⟩)
 refine k_ (sqH ?_); intro aG ab
 refine bt f b 4 [] [] [(12, pt a 0), (14, .bool (decide (u0 < 0))), (15, y6 (wu64 u0))] ?_; intro a3 ac
 obtain ⟨aH, ad⟩ := aF
 refine ck ac 104 #[y6 (wu64 u0)] ?_
 refine (gwords_fun (wu64 u0) aH _ _ b.fz).mono ?_; rintro _ aI ⟨ae, af, aJ, rfl, k, hm⟩; refine ⟨_, rfl, ?_⟩; intro a4 ag; have ah := b.callZ hm
 have u : Mem w.heap.size [] w Z [.row a [.bool false, .slice none 0 0] 73] aJ aI := ah
 have ai := ad (k.small)
 refine ck ag 78 #[pt a 0, .bool (decide (u0 < 0)), .slice ae (gwordsS (wu64 u0)).length af] ?_
 obtain ⟨h, aL, aj⟩ := hxq ai
 have d := ggive_fun (⟨false, []⟩ : BInt) (decide (u0 < 0)) (gwordsS (wu64 u0)) a none 0 ae af _ _ _ _ _ _ (SlR.nil _ _) k u u.fz; rw [aL] at d; refine d.mono ?_; rintro _ ak ⟨v, x, y, rfl, al, am, hm⟩; refine ⟨_, rfl, ?_⟩; intro a5 an; have ao := hm
 have ap : Mem w.heap.size [] w Z [.row a [.bool h.neg, .slice v h.abs.length x] 73] y ak := ao
 have aM := aj (am.small)
 refine s1 an 4 (pt a 0) ?_; intro a7 aq
 apply ab
 refine r_ (ra1 aq (pt a 0) ?_)
 refine ⟨_, rfl, ?_⟩; intro a8 ar
 refine s1 ar 2 (pt a 0) ?_; intro a9 aN
 have aO : Mem w.heap.size [] w Z [.row a [.bool h.neg, .slice v h.abs.length x] 73] y ak := ap
 apply i
 exact r_ (ra1 aN (pt a 0) ⟨h, a, v, x, y, rfl, aM, am, aO.kp⟩)
theorem rden_walk (u0 : BRat) (b1 : Nat) (ao2 : Option Addr) (cap3 : Nat) (ao5 : Option Addr) (cap6 : Nat) (B : Nat) (w0 : World) (Z0 : Fz) (Rr : List Res) (Z : Fz) (w : World) (hs4 : SlR (tyInt .u32) Z ao2 cap3 u0.a.abs) (hs7 : SlR (tyInt .u32) Z ao5 cap6 u0.b.abs) (hM0 : Mem B [] w0 Z0 ((.row b1 [.bool u0.a.neg, .slice ao2 u0.a.abs.length cap3, .bool u0.b.neg, .slice ao5 u0.b.abs.length cap6] 75) :: Rr) Z w) (hZ : Z.on w) {K : BRat → Prop} (hp : rden_vc u0 K) : Calls Tryz.prog 76 #[pt b1 0] w fun e w' => ∃ (r : BRat) (ao1001 : Option Addr) (cap1002 : Nat) (ao1004 : Option Addr) (cap1005 : Nat) (Z' : Fz), e = .returned (pt b1 2) ∧ K r ∧ Fz.le Z Z' ∧ SlR (tyInt .u32) Z' ao1001 cap1002 r.a.abs ∧ SlR (tyInt .u32) Z' ao1004 cap1005 r.b.abs ∧ Mem B [] w0 Z0 ((.row b1 [.bool r.a.neg, .slice ao1001 r.a.abs.length cap1002, .bool r.b.neg, .slice ao1004 r.b.abs.length cap1005] 75) :: Rr) Z' w' := by
 refine enter0 Tryz.func76 rfl rfl (by kernel_rfl) ?_; intro m d; have h := Fz.le.refl Z
 have i := hp (hs4.small) (hs7.small)
 refine sqB d hM0 [] [] [] ?_; intro n g
 refine s_ (sqB g hM0 [0] [] [(9, .bool ((u0.b.abs.length : Int) == 0))] ?_); intro o c
 obtain ⟨j, k⟩ := i
 refine cn c j ?_
 refine k_ (sqB c hM0 [] [] [(2, pt b1 2)] ?_); intro p l
 exact r_ (ra1 l (pt b1 2) ⟨u0, ao2, cap3, ao5, cap6, Z, rfl, k, h, hs4, hs7, hM0.kp⟩)
theorem gnegA_walk (u0 : BRat) (b1 : Nat) (ao2 : Option Addr) (cap3 : Nat) (ao5 : Option Addr) (cap6 : Nat) (B : Nat) (w0 : World) (Z0 : Fz) (Rr : List Res) (Z : Fz) (w : World) (hs4 : SlR (tyInt .u32) Z ao2 cap3 u0.a.abs) (hs7 : SlR (tyInt .u32) Z ao5 cap6 u0.b.abs) (hM0 : Mem B [] w0 Z0 ((.row b1 [.bool u0.a.neg, .slice ao2 u0.a.abs.length cap3, .bool u0.b.neg, .slice ao5 u0.b.abs.length cap6] 75) :: Rr) Z w) (hZ : Z.on w) {K : BRat → Prop} (hp : gnegA_vc u0 K) : Calls Tryz.prog 51 #[pt b1 0, pt b1 0] w fun e w' => ∃ (r : BRat) (ao1001 : Option Addr) (cap1002 : Nat) (ao1004 : Option Addr) (cap1005 : Nat) (Z' : Fz), e = .returned (pt b1 0) ∧ K r ∧ Fz.le Z Z' ∧ SlR (tyInt .u32) Z' ao1001 cap1002 r.a.abs ∧ SlR (tyInt .u32) Z' ao1004 cap1005 r.b.abs ∧ Mem B [] w0 Z0 ((.row b1 [.bool r.a.neg, .slice ao1001 r.a.abs.length cap1002, .bool r.b.neg, .slice ao1004 r.b.abs.length cap1005] 75) :: Rr) Z' w' := by
 refine enter0 Tryz.func51 rfl rfl (by kernel_rfl) ?_; intro a0 n; have c := Fz.le.refl Z
 have M := hp (hs4.small) (hs7.small)
 refine sqB n hM0 [] [] [] ?_; intro N p
 have q : Fr 17 [] [⟨0, [], pt b1 0⟩, ⟨1, [], pt b1 0⟩] N := p.reg
 refine wp_seq (rgS mixed hM0 [(0, true), (1, true), (2, true), (3, true), (4, true), (5, true), (6, true), (7, true), (8, true), (9, true), (10, false), (11, false), (12, false)] [11, 12] [0] [.row b1 (e75Nc u0 ao2 cap3 ao5 cap6) 75] ?_)
 intro O s ac i
 have d := Fz.le.refl Z
 refine cS q 10 [0, 0] [] [(5, pt b1 0), (10, .bool (!u0.a.neg)), (14, .slice ao2 u0.a.abs.length cap3)] ?_; intro ad t
 refine eS rfl ?_; intro P u
 obtain ⟨Q, R⟩ := M
 refine ck t 83 #[.slice ao2 u0.a.abs.length cap3] ?_
 refine (gtwin_fun u0.a.abs Q ao2 cap3 _ _ hs4 i.fz).mono ?_; rintro _ v ⟨j, k, S, rfl, hm⟩; refine ⟨_, rfl, ?_⟩; intro ae x; have y := i.callZ hm; have g := hm.ext.le
 replace hs4 := hs4.mono g
 replace hs7 := hs7.mono g
 replace d := d.mono g
 replace c := Fz.le.trans c g
 have z : Mem B [] w0 Z0 ((.own (tyInt .u32) 105 j k (gtwinS u0.a.abs)) :: (.row b1 (e75Nc u0 ao2 cap3 ao5 cap6) 75) :: Rr) S v := y
 refine nl (qnI (u _ _ (z.cst d [1]) ?_))
 refine eL rfl ?_; intro T A
 obtain ⟨U, h, C, l⟩ := z.freeze 0 rfl
 replace hs4 := hs4.mono h
 replace hs7 := hs7.mono h
 replace c := Fz.le.trans c h
 have m : Mem B [] w0 Z0 ((.row b1 (e75Nc u0 ao2 cap3 ao5 cap6) 75) :: Rr) U v := C
 refine ck x 78 #[pt b1 0, .bool (!u0.a.neg), .slice j (gtwinS u0.a.abs).length k] ?_
 refine (ggiveA_fun u0 (!u0.a.neg) (gtwinS u0.a.abs) b1 ao2 cap3 ao5 cap6 j k _ _ _ _ _ _ hs4 hs7 l m m.fz).mono ?_; rintro _ V ⟨D, E, F, G, H, rfl, f, W, X, hm⟩; refine ⟨_, rfl, ?_⟩; intro af I; have J := hm
 replace c := Fz.le.trans c f
 have Y : Mem B [] w0 Z0 ((.row b1 (e75Nc (ggiveA u0 (!u0.a.neg) (gtwinS u0.a.abs)) D E F G) 75) :: Rr) H V := J
 refine nl (qnI (A _ _ ?_))
 refine eL rfl ?_; intro aa L
 refine s1 I 4 (pt b1 0) ?_; intro ag ab
 refine nl (qnI (L _ _ ?_))
 refine nS (s _ _ ?_)
 exact t_ (r_ (ra1 ab (pt b1 0) ⟨(ggiveA u0 (!u0.a.neg) (gtwinS u0.a.abs)), D, E, F, G, H, rfl, R, c, W, X, Y.kp⟩))
theorem gnegB_walk (u0 : BRat) (b1 : Nat) (ao2 : Option Addr) (cap3 : Nat) (ao5 : Option Addr) (cap6 : Nat) (B : Nat) (w0 : World) (Z0 : Fz) (Rr : List Res) (Z : Fz) (w : World) (hs4 : SlR (tyInt .u32) Z ao2 cap3 u0.a.abs) (hs7 : SlR (tyInt .u32) Z ao5 cap6 u0.b.abs) (hM0 : Mem B [] w0 Z0 ((.row b1 [.bool u0.a.neg, .slice ao2 u0.a.abs.length cap3, .bool u0.b.neg, .slice ao5 u0.b.abs.length cap6] 75) :: Rr) Z w) (hZ : Z.on w) {K : BRat → Prop} (hp : gnegB_vc u0 K) : Calls Tryz.prog 51 #[pt b1 2, pt b1 2] w fun e w' => ∃ (r : BRat) (ao1001 : Option Addr) (cap1002 : Nat) (ao1004 : Option Addr) (cap1005 : Nat) (Z' : Fz), e = .returned (pt b1 2) ∧ K r ∧ Fz.le Z Z' ∧ SlR (tyInt .u32) Z' ao1001 cap1002 r.a.abs ∧ SlR (tyInt .u32) Z' ao1004 cap1005 r.b.abs ∧ Mem B [] w0 Z0 ((.row b1 [.bool r.a.neg, .slice ao1001 r.a.abs.length cap1002, .bool r.b.neg, .slice ao1004 r.b.abs.length cap1005] 75) :: Rr) Z' w' := by
 refine enter0 Tryz.func51 rfl rfl (by kernel_rfl) ?_; intro a0 n; have c := Fz.le.refl Z
 have M := hp (hs4.small) (hs7.small)
 refine sqB n hM0 [] [] [] ?_; intro N p
 have q : Fr 17 [] [⟨0, [], pt b1 2⟩, ⟨1, [], pt b1 2⟩] N := p.reg
 refine wp_seq (rgS mixed hM0 [(0, true), (1, true), (2, true), (3, true), (4, true), (5, true), (6, true), (7, true), (8, true), (9, true), (10, false), (11, false), (12, false)] [11, 12] [0] [.row b1 (e75Nc u0 ao2 cap3 ao5 cap6) 75] ?_)
 intro O s ac i
 have d := Fz.le.refl Z
 refine cS q 10 [0, 0] [] [(5, pt b1 2), (10, .bool (!u0.b.neg)), (14, .slice ao5 u0.b.abs.length cap6)] ?_; intro ad t
 refine eS rfl ?_; intro P u
 obtain ⟨Q, R⟩ := M
 refine ck t 83 #[.slice ao5 u0.b.abs.length cap6] ?_
 refine (gtwin_fun u0.b.abs Q ao5 cap6 _ _ hs7 i.fz).mono ?_; rintro _ v ⟨j, k, S, rfl, hm⟩; refine ⟨_, rfl, ?_⟩; intro ae x; have y := i.callZ hm; have g := hm.ext.le
 replace hs4 := hs4.mono g
 replace hs7 := hs7.mono g
 replace d := d.mono g
 replace c := Fz.le.trans c g
 have z : Mem B [] w0 Z0 ((.own (tyInt .u32) 105 j k (gtwinS u0.b.abs)) :: (.row b1 (e75Nc u0 ao2 cap3 ao5 cap6) 75) :: Rr) S v := y
 refine nl (qnI (u _ _ (z.cst d [1]) ?_))
 refine eL rfl ?_; intro T A
 obtain ⟨U, h, C, l⟩ := z.freeze 0 rfl
 replace hs4 := hs4.mono h
 replace hs7 := hs7.mono h
 replace c := Fz.le.trans c h
 have m : Mem B [] w0 Z0 ((.row b1 (e75Nc u0 ao2 cap3 ao5 cap6) 75) :: Rr) U v := C
 refine ck x 78 #[pt b1 2, .bool (!u0.b.neg), .slice j (gtwinS u0.b.abs).length k] ?_
 refine (ggiveB_fun u0 (!u0.b.neg) (gtwinS u0.b.abs) b1 ao2 cap3 ao5 cap6 j k _ _ _ _ _ _ hs4 hs7 l m m.fz).mono ?_; rintro _ V ⟨D, E, F, G, H, rfl, f, W, X, hm⟩; refine ⟨_, rfl, ?_⟩; intro af I; have J := hm
 replace c := Fz.le.trans c f
 have Y : Mem B [] w0 Z0 ((.row b1 (e75Nc (ggiveB u0 (!u0.b.neg) (gtwinS u0.b.abs)) D E F G) 75) :: Rr) H V := J
 refine nl (qnI (A _ _ ?_))
 refine eL rfl ?_; intro aa L
 refine s1 I 4 (pt b1 2) ?_; intro ag ab
 refine nl (qnI (L _ _ ?_))
 refine nS (s _ _ ?_)
 exact t_ (r_ (ra1 ab (pt b1 2) ⟨(ggiveB u0 (!u0.b.neg) (gtwinS u0.b.abs)), D, E, F, G, H, rfl, R, c, W, X, Y.kp⟩))
end Go.Proofs.YtdndfbamhnchfaaGreatDoor
