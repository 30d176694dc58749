/- The walks, made by program: each call does what its pure predicate says. -/
import Derived.Test.YtkogkombalcgeaaWQ
set_option linter.unusedVariables false
set_option linter.unusedSimpArgs false
namespace Go.Proofs.Ytkogkombalcgeaa
open Go.Sy Go.RowKit
set_option maxRecDepth 100000 in
set_option maxHeartbeats 0 in
theorem LPGet_walk (u0 : Getter) (u1 : List Int) (ao1 : Option Addr) (cap2 : Nat) (ao4 : Option Addr) (cap5 : Nat) (Z : Fz) (w : World) (hs3 : SlR (tyInt .u8) Z ao1 cap2 u0.Data) (hs6 : SlR (tyInt .u8) Z ao4 cap5 u1) (hZ : Z.on w) {K : Bool → Prop} (hp : LPGet_vc u0 u1 K) : Calls Try.prog 14 #[.agg #[.int .i64 u0.Want, .slice ao1 u0.Data.length cap2, .int .i64 u0.Next, .int .i64 u0.Block, .int .i64 u0.Left], .slice ao4 u1.length cap5] w fun e w' => ∃ r : Bool, e = .returned (.bool r) ∧ K r ∧ Below w.heap.size w w' := by
 refine enter0 Try.func14 rfl rfl (by kernel_rfl) ?_; intro a0 hF0; have hM0 := Mem.start w Z hZ; have hle0 := Fz.le.refl Z
 have hp7 := hp (hs3.small); clear hp
 have hp8 := hp7 (hs6.small); clear hp7
 refine sqH ?_; intro hQ9Q hQ9
 refine sn hF0 hM0 (fun b => .pointer (some ⟨b, 0, none⟩)) [.int .i64 u0.Want, .slice ao1 u0.Data.length cap2, .int .i64 u0.Next, .int .i64 u0.Block, .int .i64 u0.Left] 71 (nog rfl _) rfl (by kernel_rfl) (by kernel_rfl) ?_; intro b10 a11 wd13 hF12 hM14; clear hF0 hM0
 refine s1 hF12 4 (.bool false) ?_; intro a15 hF16; clear hF12
 refine nlH (hQ9 _ _ ?_); clear hQ9 hQ9Q
 refine sqH ?_; intro hQ17Q hQ17
 refine l2 hF16 hM14 16 0 0 5 [.int .i64 u0.Want, .slice ao1 u0.Data.length cap2, .int .i64 u0.Next, .int .i64 u0.Block, .int .i64 u0.Left] rfl rfl ?_; intro a18 hF19; clear hF16
 refine s1 hF19 17 (.slice ao4 u1.length cap5) ?_; intro a20 hF21; clear hF19
 have hc22 := hp8.1; have hp23 := hp8.2; clear hp8
 refine cl hF21 41 #[.agg #[.int .i64 u0.Want, .slice ao1 u0.Data.length cap2, .int .i64 u0.Next, .int .i64 u0.Block, .int .i64 u0.Left], .slice ao4 u1.length cap5] (nog rfl _) rfl (by kernel_rfl) (by kernel_rfl) ?_
 refine (pget_fun u0 u1 hc22 ao1 cap2 ao4 cap5 _ _ hs3 hs6 hM14.fz).mono ?_; rintro _ wd24 ⟨ao28, cap29, ao31, cap32, ao34, cap35, Z37, rfl, hs30, hn33, hn36, hm⟩; refine ⟨_, rfl, ?_⟩; intro a25 hF26; have hM27 := hM14.callZ hm; have hle38 := hm.ext.le; clear hm hM14 hF21
 replace hs3 := hs3.mono hle38
 replace hs6 := hs6.mono hle38
 replace hle0 := Fz.le.trans hle0 hle38
 have hM39 : Mem w.heap.size [] w Z [.own (tyInt .u8) 5 ao31 cap32 ((pgetS u0 u1).2.1), .own (tyInt .u8) 5 ao34 cap35 ((pgetS u0 u1).2.2.1), .row b10 [.int .i64 u0.Want, .slice ao1 u0.Data.length cap2, .int .i64 u0.Next, .int .i64 u0.Block, .int .i64 u0.Left] 71] Z37 wd24 := hM27; clear hM27
 have hp40 := hp23 (hM39.ownSmall 0 rfl); clear hp23
 have hp41 := hp40 (hM39.ownSmall 1 rfl); clear hp40
 have hp42 := hp41 (hs30.small); clear hp41
 refine s1 hF26 15 (.tuple #[.agg #[.int .i64 (((pgetS u0 u1).1).Want), .slice ao28 (((pgetS u0 u1).1).Data).length cap29, .int .i64 (((pgetS u0 u1).1).Next), .int .i64 (((pgetS u0 u1).1).Block), .int .i64 (((pgetS u0 u1).1).Left)], .slice ao31 ((pgetS u0 u1).2.1).length cap32, .slice ao34 ((pgetS u0 u1).2.2.1).length cap35, .int .i64 ((pgetS u0 u1).2.2.2.1)]) ?_; intro a43 hF44; clear hF26
 refine s1 hF44 19 (.agg #[.int .i64 (((pgetS u0 u1).1).Want), .slice ao28 (((pgetS u0 u1).1).Data).length cap29, .int .i64 (((pgetS u0 u1).1).Next), .int .i64 (((pgetS u0 u1).1).Block), .int .i64 (((pgetS u0 u1).1).Left)]) ?_; intro a45 hF46; clear hF44
 refine s1 hF46 20 (.slice ao31 ((pgetS u0 u1).2.1).length cap32) ?_; intro a47 hF48; clear hF46
 refine s1 hF48 21 (.slice ao34 ((pgetS u0 u1).2.2.1).length cap35) ?_; intro a49 hF50; clear hF48
 refine s1 hF50 22 (.int .i64 ((pgetS u0 u1).2.2.2.1)) ?_; intro a51 hF52; clear hF50
 refine sn hF52 hM39 (fun b => .pointer (some ⟨b, 0, none⟩)) [.int .i64 0, .slice none 0 0, .int .i64 0, .int .i64 0, .int .i64 0] 71 (nog rfl _) rfl (by kernel_rfl) (by kernel_rfl) ?_; intro b53 a54 wd56 hF55 hM57; clear hF52 hM39
 refine sr hF55 hM57 0 [.int .i64 (((pgetS u0 u1).1).Want), .slice ao28 (((pgetS u0 u1).1).Data).length cap29, .int .i64 (((pgetS u0 u1).1).Next), .int .i64 (((pgetS u0 u1).1).Block), .int .i64 (((pgetS u0 u1).1).Left)] (b := b53) (off := 0) (cs := [.int .i64 0, .slice none 0 0, .int .i64 0, .int .i64 0, .int .i64 0]) (ty := 71) (u := .agg #[.int .i64 (((pgetS u0 u1).1).Want), .slice ao28 (((pgetS u0 u1).1).Data).length cap29, .int .i64 (((pgetS u0 u1).1).Next), .int .i64 (((pgetS u0 u1).1).Block), .int .i64 (((pgetS u0 u1).1).Left)]) (nog rfl _) rfl rfl (by kernel_rfl) (by kernel_rfl) (by kernel_rfl) (by kernel_rfl) (by kernel_rfl) (by kernel_rfl) (by kernel_rfl) ?_; intro wd58 hM59; clear hM57
 refine s1 hF55 6 (.slice ao31 ((pgetS u0 u1).2.1).length cap32) ?_; intro a60 hF61; clear hF55
 refine s1 hF61 7 (.slice ao34 ((pgetS u0 u1).2.2.1).length cap35) ?_; intro a62 hF63; clear hF61
 refine s1 hF63 8 (.int .i64 ((pgetS u0 u1).2.2.2.1)) ?_; intro a64 hF65; clear hF63
 have hM66 : Mem w.heap.size [] w Z [.row b53 [.int .i64 (((pgetS u0 u1).1).Want), .slice ao28 (((pgetS u0 u1).1).Data).length cap29, .int .i64 (((pgetS u0 u1).1).Next), .int .i64 (((pgetS u0 u1).1).Block), .int .i64 (((pgetS u0 u1).1).Left)] 71, .own (tyInt .u8) 5 ao31 cap32 ((pgetS u0 u1).2.1), .own (tyInt .u8) 5 ao34 cap35 ((pgetS u0 u1).2.2.1), .row b10 [.int .i64 u0.Want, .slice ao1 u0.Data.length cap2, .int .i64 u0.Next, .int .i64 u0.Block, .int .i64 u0.Left] 71] Z37 wd58 := hM59; clear hM59
 refine nlH (hQ17 _ _ ?_); clear hQ17 hQ17Q
 have hF67 : Fr 229 [] [⟨1, [], .slice ao4 u1.length cap5⟩, ⟨2, [], .pointer (some ⟨b10, 0, none⟩)⟩, ⟨5, [], .pointer (some ⟨b53, 0, none⟩)⟩, ⟨6, [], .slice ao31 ((pgetS u0 u1).2.1).length cap32⟩, ⟨7, [], .slice ao34 ((pgetS u0 u1).2.2.1).length cap35⟩, ⟨8, [], .int .i64 ((pgetS u0 u1).2.2.2.1)⟩] a64 := hF65.region (by kernel_rfl) (by kernel_rfl); clear hF65
 refine sqH ?_; intro hQ68Q hQ68
 refine l2 hF67 hM66 23 3 0 5 [.int .i64 u0.Want, .slice ao1 u0.Data.length cap2, .int .i64 u0.Next, .int .i64 u0.Block, .int .i64 u0.Left] rfl rfl ?_; intro a69 hF70; clear hF67
 refine fcl hF70 hM66 (.int .i64 (rcheckg u0)) 45 #[.agg #[.int .i64 u0.Want, .slice ao1 u0.Data.length cap2, .int .i64 u0.Next, .int .i64 u0.Block, .int .i64 u0.Left]] (nog rfl _) rfl (by kernel_rfl) (fun _ => by kernel_rfl) (rcheckg_fun u0 ao1 cap2 _ _ hs3 hM66.fz) ?_; intro a71 wd73 hF72 hM74; clear hF70 hM66
 refine s1 hF72 9 (.int .i64 (rcheckg u0)) ?_; intro a75 hF76; clear hF72
 refine nlH (hQ68 _ _ ?_); clear hQ68 hQ68Q
 refine wp_seq ?_
 refine sqH ?_; intro hQ77Q hQ77
 refine fcl hF76 hM74 (.bool true) 33 #[] (nog rfl _) rfl (by kernel_rfl) (fun _ => by kernel_rfl) (parted_fun  _ _ hM74.fz) ?_; intro a78 wd80 hF79 hM81; clear hF76 hM74
 refine s1 hF79 26 (.bool false) ?_; intro a82 hF83; clear hF79
 refine s1 hF83 27 (.bool false) ?_; intro a84 hF85; clear hF83
 refine st hF85 (.agg #[.int .i64 u0.Want, .slice ao1 u0.Data.length cap2, .int .i64 u0.Next, .int .i64 u0.Block, .int .i64 u0.Left]) (by rw [wanted_of hF85 (b := false) rfl rfl (by kernel_rfl) (by kernel_rfl)]; rfl) rfl (by kernel_rfl) (lda hF85 hM81 3 (g := []) (b := b10) (off := 0) (k := 5) (cs := [.int .i64 u0.Want, .slice ao1 u0.Data.length cap2, .int .i64 u0.Next, .int .i64 u0.Block, .int .i64 u0.Left]) (vs := [.int .i64 u0.Want, .slice ao1 u0.Data.length cap2, .int .i64 u0.Next, .int .i64 u0.Block, .int .i64 u0.Left]) (ty := 71) rfl (by kernel_rfl) (by kernel_rfl) (by kernel_rfl) (by kernel_rfl) (by kernel_rfl) rfl) ?_; intro a86 hF87; clear hF85
 refine fcl hF87 hM81 (.int .i64 (pcheckg u0)) 42 #[.agg #[.int .i64 u0.Want, .slice ao1 u0.Data.length cap2, .int .i64 u0.Next, .int .i64 u0.Block, .int .i64 u0.Left]] (by rw [wanted_of hF87 (b := false) rfl rfl (by kernel_rfl) (by kernel_rfl)]; rfl) rfl (by kernel_rfl) (fun _ => by kernel_rfl) (pcheckg_fun u0 ao1 cap2 _ _ hs3 hM81.fz) ?_; intro a88 wd90 hF89 hM91; clear hF87 hM81
 refine st hF89 (.int .i64 (rcheckg u0)) (by rw [wanted_of hF89 (b := false) rfl rfl (by kernel_rfl) (by kernel_rfl)]; rfl) rfl (by kernel_rfl) (p0 hF89 (by kernel_rfl)) ?_; intro a92 hF93; clear hF89
 refine st hF93 (.bool ((pcheckg u0) != (rcheckg u0))) (by rw [wanted_of hF93 (b := false) rfl rfl (by kernel_rfl) (by kernel_rfl)]; rfl) rfl (by kernel_rfl) (p0 hF93 (by kernel_rfl)) ?_; intro a94 hF95; clear hF93
 refine s1 hF95 32 (.bool ((pcheckg u0) != (rcheckg u0))) ?_; intro a96 hF97; clear hF95
 refine nlH (hQ77 _ _ ?_); clear hQ77 hQ77Q
 refine cd hF97 (t := (pcheckg u0) != (rcheckg u0)) (by kernel_rfl) (fun hb98 => ?_) (fun hb98 => ?_)
 · -- yes
  have hp99 := hp42.1 hb98; clear hp42
  refine sqH ?_; intro hQ100Q hQ100
  refine s1 hF97 4 (.bool false) ?_; intro a101 hF102; clear hF97
  refine nlH (hQ100 _ _ ?_); clear hQ100 hQ100Q
  refine wp_ret ?_
  refine thr ?_
  refine rt (fn := Try.f14) (v := .bool false) hF102 (re1 hF102 (fn := Try.f14) rfl (by kernel_rfl)) ?_
  exact ⟨false, rfl, hp99, hM91.below⟩
 · -- no
  have hp103 := hp42.2 hb98; clear hp42
  refine wp_skip ?_
  refine thn ?_
  refine sqH ?_; intro hQ104Q hQ104
  refine s1 hF97 33 (.pointer (some ⟨b10, 3, none⟩)) ?_; intro a105 hF106; clear hF97
  refine l1 hF106 hM91 34 3 3 (.int .i64 u0.Block) rfl rfl ?_; intro a107 hF108; clear hF106
  refine s1 hF108 35 (.agg #[.int .i64 0, .slice none 0 0, .int .i64 0, .int .i64 u0.Block, .int .i64 0]) ?_; intro a109 hF110; clear hF108
  refine sn hF110 hM91 (fun b => .pointer (some ⟨b, 0, none⟩)) [.int .i64 0, .slice none 0 0, .int .i64 0, .int .i64 0, .int .i64 0] 71 (nog rfl _) rfl (by kernel_rfl) (by kernel_rfl) ?_; intro b111 a112 wd114 hF113 hM115; clear hF110 hM91
  refine sr hF113 hM115 0 [.int .i64 0, .slice none 0 0, .int .i64 0, .int .i64 u0.Block, .int .i64 0] (b := b111) (off := 0) (cs := [.int .i64 0, .slice none 0 0, .int .i64 0, .int .i64 0, .int .i64 0]) (ty := 71) (u := .agg #[.int .i64 0, .slice none 0 0, .int .i64 0, .int .i64 u0.Block, .int .i64 0]) (nog rfl _) rfl rfl (by kernel_rfl) (by kernel_rfl) (by kernel_rfl) (by kernel_rfl) (by kernel_rfl) (by kernel_rfl) (by kernel_rfl) ?_; intro wd116 hM117; clear hM115
  have hM118 : Mem w.heap.size [] w Z [.row b111 [.int .i64 0, .slice none 0 0, .int .i64 0, .int .i64 u0.Block, .int .i64 0] 71, .row b53 [.int .i64 (((pgetS u0 u1).1).Want), .slice ao28 (((pgetS u0 u1).1).Data).length cap29, .int .i64 (((pgetS u0 u1).1).Next), .int .i64 (((pgetS u0 u1).1).Block), .int .i64 (((pgetS u0 u1).1).Left)] 71, .own (tyInt .u8) 5 ao31 cap32 ((pgetS u0 u1).2.1), .own (tyInt .u8) 5 ao34 cap35 ((pgetS u0 u1).2.2.1), .row b10 [.int .i64 u0.Want, .slice ao1 u0.Data.length cap2, .int .i64 u0.Next, .int .i64 u0.Block, .int .i64 u0.Left] 71] Z37 wd116 := hM117; clear hM117
  refine nlH (hQ104 _ _ ?_); clear hQ104 hQ104Q
  have hF119 : Fr 229 [] [⟨1, [], .slice ao4 u1.length cap5⟩, ⟨2, [], .pointer (some ⟨b10, 0, none⟩)⟩, ⟨5, [], .pointer (some ⟨b53, 0, none⟩)⟩, ⟨6, [], .slice ao31 ((pgetS u0 u1).2.1).length cap32⟩, ⟨7, [], .slice ao34 ((pgetS u0 u1).2.2.1).length cap35⟩, ⟨8, [], .int .i64 ((pgetS u0 u1).2.2.2.1)⟩, ⟨9, [], .int .i64 (rcheckg u0)⟩, ⟨10, [], .pointer (some ⟨b111, 0, none⟩)⟩] a112 := hF113.region (by kernel_rfl) (by kernel_rfl); clear hF113
  refine sqH ?_; intro hQ120Q hQ120
  refine s1 hF119 11 (.slice none 0 0) ?_; intro a121 hF122; clear hF119
  refine s1 hF122 12 (.slice none 0 0) ?_; intro a123 hF124; clear hF122
  refine nlH (hQ120 _ _ ?_); clear hQ120 hQ120Q
  refine sqH ?_; intro hQ125Q hQ125
  refine s1 hF124 36 (.pointer (some ⟨b10, 3, none⟩)) ?_; intro a126 hF127; clear hF124
  refine l1 hF127 hM118 37 4 3 (.int .i64 u0.Block) rfl rfl ?_; intro a128 hF129; clear hF127
  refine s1 hF129 38 (.int .u8 (w8 u0.Block)) ?_; intro a130 hF131; clear hF129
  refine sn hF131 hM118 (fun b => .slice (some ⟨b, 0, none⟩) 3 3) [.int .u8 48, .int .u8 (w8 u0.Block), .int .u8 0] 5 (nog rfl _) rfl (by kernel_rfl) (by kernel_rfl) ?_; intro b132 a133 wd135 hF134 hM136; clear hF131 hM118
  refine s1 hF134 13 (.slice (some ⟨b132, 0, none⟩) 3 3) ?_; intro a137 hF138; clear hF134
  refine nlH (hQ125 _ _ ?_); clear hQ125 hQ125Q
  have hF139 : Fr 229 [] [⟨1, [], .slice ao4 u1.length cap5⟩, ⟨2, [], .pointer (some ⟨b10, 0, none⟩)⟩, ⟨5, [], .pointer (some ⟨b53, 0, none⟩)⟩, ⟨6, [], .slice ao31 ((pgetS u0 u1).2.1).length cap32⟩, ⟨7, [], .slice ao34 ((pgetS u0 u1).2.2.1).length cap35⟩, ⟨8, [], .int .i64 ((pgetS u0 u1).2.2.2.1)⟩, ⟨9, [], .int .i64 (rcheckg u0)⟩, ⟨10, [], .pointer (some ⟨b111, 0, none⟩)⟩, ⟨11, [], .slice none 0 0⟩, ⟨12, [], .slice none 0 0⟩, ⟨13, [], .slice (some ⟨b132, 0, none⟩) 3 3⟩] a137 := hF138.region (by kernel_rfl) (by kernel_rfl); clear hF138
  have hF141 : Fr 229 [] [⟨1, [], .slice ao4 u1.length cap5⟩, ⟨2, [], .pointer (some ⟨b10, 0, none⟩)⟩, ⟨5, [], .pointer (some ⟨b53, 0, none⟩)⟩, ⟨6, [], .slice ao31 ((pgetS u0 u1).2.1).length cap32⟩, ⟨7, [], .slice ao34 ((pgetS u0 u1).2.2.1).length cap35⟩, ⟨8, [], .int .i64 ((pgetS u0 u1).2.2.2.1)⟩, ⟨9, [], .int .i64 (rcheckg u0)⟩, ⟨10, [], .pointer (some ⟨b111, 0, none⟩)⟩, ⟨11, [], .slice none 0 0⟩, ⟨12, [], .slice none 0 0⟩, ⟨13, [], .slice (some ⟨b132, 0, none⟩) 3 3⟩] a137 := hF139.region (by kernel_rfl) (by kernel_rfl); clear hF139
  obtain ⟨inv140, hp142, hp143⟩ := hp103
  refine wp_seq_k fun KJ144 hKJ145 => ?_
  have hJ146 : ∀ (x9 : Int) (x11 : List Int) (x12 : List Int) (yb111 : Getter) (aox11 : Option Addr) (capx11 : Nat) (aox12 : Option Addr) (capx12 : Nat) (aoyb111_0 : Option Addr) (capyb111_0 : Nat) (ZJ140 : Fz), inv140 x9 x11 x12 yb111 ∧ SlR (tyInt .u8) ZJ140 aox11 capx11 x11 ∧ SlR (tyInt .u8) ZJ140 aox12 capx12 x12 ∧ SlR (tyInt .u8) ZJ140 aoyb111_0 capyb111_0 yb111.Data ∧ Fz.le Z37 ZJ140 → ∀ a1 w1, Fr 229 [] [⟨5, [], .pointer (some ⟨b53, 0, none⟩)⟩, ⟨6, [], .slice ao31 ((pgetS u0 u1).2.1).length cap32⟩, ⟨7, [], .slice ao34 ((pgetS u0 u1).2.2.1).length cap35⟩, ⟨8, [], .int .i64 ((pgetS u0 u1).2.2.2.1)⟩, ⟨9, [], .int .i64 x9⟩, ⟨10, [], .pointer (some ⟨b111, 0, none⟩)⟩, ⟨11, [], .slice aox11 x11.length capx11⟩, ⟨12, [], .slice aox12 x12.length capx12⟩] a1 → Mem w.heap.size [] w Z [.row b111 [.int .i64 yb111.Want, .slice aoyb111_0 yb111.Data.length capyb111_0, .int .i64 yb111.Next, .int .i64 yb111.Block, .int .i64 yb111.Left] 71, .row b53 [.int .i64 (((pgetS u0 u1).1).Want), .slice ao28 (((pgetS u0 u1).1).Data).length cap29, .int .i64 (((pgetS u0 u1).1).Next), .int .i64 (((pgetS u0 u1).1).Block), .int .i64 (((pgetS u0 u1).1).Left)] 71, .own (tyInt .u8) 5 ao31 cap32 ((pgetS u0 u1).2.1), .own (tyInt .u8) 5 ao34 cap35 ((pgetS u0 u1).2.2.1), .row b10 [.int .i64 u0.Want, .slice ao1 u0.Data.length cap2, .int .i64 u0.Next, .int .i64 u0.Block, .int .i64 u0.Left] 71] ZJ140 w1 → KJ144 a1 w1 := by
   rintro x9 x11 x12 yb111 aox11 capx11 aox12 capx12 aoyb111_0 capyb111_0 ZJ140 ⟨hI151, hsx11, hsx12, hsyb111_0, hleJ140⟩ a147 wd148 hF149 hM150; clear hF141 hM136
   refine hKJ145 _ _ ?_; clear hKJ145
   have hp152 := hp143 x9 x11 x12 yb111 hI151
   replace hle0 := Fz.le.trans hle0 hleJ140
   have hs153 := hs3.mono hleJ140
   have hs154 := hs6.mono hleJ140
   have hs155 := hs30.mono hleJ140
   refine wp_seq ?_
   refine sqH ?_; intro hQ156Q hQ156
   refine s1 hF149 192 (.int .i64 x9) ?_; intro a157 hF158; clear hF149
   refine s1 hF158 193 (.bool (x9 != 0)) ?_; intro a159 hF160; clear hF158
   refine nlH (hQ156 _ _ ?_); clear hQ156 hQ156Q
   refine cd hF160 (t := x9 != 0) (by kernel_rfl) (fun hb161 => ?_) (fun hb161 => ?_)
   · -- yes
    have hp162 := hp152.1 hb161; clear hp152
    refine sqH ?_; intro hQ163Q hQ163
    refine s1 hF160 194 (.int .i64 ((pgetS u0 u1).2.2.2.1)) ?_; intro a164 hF165; clear hF160
    refine s1 hF165 195 (.int .i64 x9) ?_; intro a166 hF167; clear hF165
    refine s1 hF167 196 (.bool (((pgetS u0 u1).2.2.2.1) == x9)) ?_; intro a168 hF169; clear hF167
    refine s1 hF169 197 (.bool (((pgetS u0 u1).2.2.2.1) == x9)) ?_; intro a170 hF171; clear hF169
    have hF172 := hF171.atom ((((pgetS u0 u1).2.2.2.1) == x9) == true) (by kernel_rfl); clear hF171
    refine gd hF172 (.agg #[.int .i64 (((pgetS u0 u1).1).Want), .slice ao28 (((pgetS u0 u1).1).Data).length cap29, .int .i64 (((pgetS u0 u1).1).Next), .int .i64 (((pgetS u0 u1).1).Block), .int .i64 (((pgetS u0 u1).1).Left)]) (m := 0) (cj := []) (bj := ((pgetS u0 u1).2.2.2.1) == x9) rfl rfl (by kernel_rfl) rfl (by kernel_rfl) (by kernel_rfl) (by kernel_rfl) (fun hg => lda hF172 hM150 1 (g := [0]) (b := b53) (off := 0) (k := 5) (cs := [.int .i64 (((pgetS u0 u1).1).Want), .slice ao28 (((pgetS u0 u1).1).Data).length cap29, .int .i64 (((pgetS u0 u1).1).Next), .int .i64 (((pgetS u0 u1).1).Block), .int .i64 (((pgetS u0 u1).1).Left)]) (vs := [.int .i64 (((pgetS u0 u1).1).Want), .slice ao28 (((pgetS u0 u1).1).Data).length cap29, .int .i64 (((pgetS u0 u1).1).Next), .int .i64 (((pgetS u0 u1).1).Block), .int .i64 (((pgetS u0 u1).1).Left)]) (ty := 71) rfl (by kernel_rfl) (by kernel_rfl) (by kernel_rfl) (by kernel_rfl) (by kernel_rfl) hg) ?_; intro a173 hF174; clear hF172
    refine gp hF174 199 0 [] (((pgetS u0 u1).2.2.2.1) == x9) (.agg #[.int .i64 0, .slice none 0 0, .int .i64 0, .int .i64 0, .int .i64 0]) rfl rfl ?_; intro a175 hF176; clear hF174
    refine gcl hF176 hM150 (.bool (psameg ((pgetS u0 u1).1) (⟨0, [], 0, 0, 0⟩ : Getter))) 47 #[.agg #[.int .i64 (((pgetS u0 u1).1).Want), .slice ao28 (((pgetS u0 u1).1).Data).length cap29, .int .i64 (((pgetS u0 u1).1).Next), .int .i64 (((pgetS u0 u1).1).Block), .int .i64 (((pgetS u0 u1).1).Left)], .agg #[.int .i64 0, .slice none 0 0, .int .i64 0, .int .i64 0, .int .i64 0]] (m := 0) (cj := []) (bj := ((pgetS u0 u1).2.2.2.1) == x9) rfl rfl (by kernel_rfl) rfl (by kernel_rfl) (by kernel_rfl) (by kernel_rfl) (fun _ => by kernel_rfl) (fun hg => psameg_fun ((pgetS u0 u1).1) (⟨0, [], 0, 0, 0⟩ : Getter) ao28 cap29 none 0 _ _ hs155 (SlR.nil _ _) hM150.fz) ?_; intro a177 wd179 hF178 hM180; clear hF176 hM150
    refine st hF178 (.bool ((((pgetS u0 u1).2.2.2.1) == x9) && (psameg ((pgetS u0 u1).1) (⟨0, [], 0, 0, 0⟩ : Getter)))) (nog rfl _) rfl (by kernel_rfl) (pk_and hF178 (g := []) (m := 0) (b := ((pgetS u0 u1).2.2.2.1) == x9) (v := (psameg ((pgetS u0 u1).1) (⟨0, [], 0, 0, 0⟩ : Getter))) rfl (by kernel_rfl) (by kernel_rfl) (by kernel_rfl) rfl) ?_; intro a181 hF182; clear hF178
    refine s1 hF182 202 (.bool ((((pgetS u0 u1).2.2.2.1) == x9) && (psameg ((pgetS u0 u1).1) (⟨0, [], 0, 0, 0⟩ : Getter)))) ?_; intro a183 hF184; clear hF182
    have hF185 := hF184.atom (((((pgetS u0 u1).2.2.2.1) == x9) && (psameg ((pgetS u0 u1).1) (⟨0, [], 0, 0, 0⟩ : Getter))) == true) (by kernel_rfl); clear hF184
    refine gp hF185 203 1 [] ((((pgetS u0 u1).2.2.2.1) == x9) && (psameg ((pgetS u0 u1).1) (⟨0, [], 0, 0, 0⟩ : Getter))) (.slice ao31 ((pgetS u0 u1).2.1).length cap32) rfl rfl ?_; intro a186 hF187; clear hF185
    refine gp hF187 204 1 [] ((((pgetS u0 u1).2.2.2.1) == x9) && (psameg ((pgetS u0 u1).1) (⟨0, [], 0, 0, 0⟩ : Getter))) (.int .i64 (((pgetS u0 u1).2.1).length : Int)) rfl rfl ?_; intro a188 hF189; clear hF187
    refine gp hF189 205 1 [] ((((pgetS u0 u1).2.2.2.1) == x9) && (psameg ((pgetS u0 u1).1) (⟨0, [], 0, 0, 0⟩ : Getter))) (.bool ((((pgetS u0 u1).2.1).length : Int) == 0)) rfl rfl ?_; intro a190 hF191; clear hF189
    refine st hF191 (.bool (((((pgetS u0 u1).2.2.2.1) == x9) && (psameg ((pgetS u0 u1).1) (⟨0, [], 0, 0, 0⟩ : Getter))) && ((((pgetS u0 u1).2.1).length : Int) == 0))) (nog rfl _) rfl (by kernel_rfl) (pk_and hF191 (g := []) (m := 1) (b := (((pgetS u0 u1).2.2.2.1) == x9) && (psameg ((pgetS u0 u1).1) (⟨0, [], 0, 0, 0⟩ : Getter))) (v := (((pgetS u0 u1).2.1).length : Int) == 0) rfl (by kernel_rfl) (by kernel_rfl) (by kernel_rfl) rfl) ?_; intro a192 hF193; clear hF191
    refine s1 hF193 207 (.bool (((((pgetS u0 u1).2.2.2.1) == x9) && (psameg ((pgetS u0 u1).1) (⟨0, [], 0, 0, 0⟩ : Getter))) && ((((pgetS u0 u1).2.1).length : Int) == 0))) ?_; intro a194 hF195; clear hF193
    have hF196 := hF195.atom ((((((pgetS u0 u1).2.2.2.1) == x9) && (psameg ((pgetS u0 u1).1) (⟨0, [], 0, 0, 0⟩ : Getter))) && ((((pgetS u0 u1).2.1).length : Int) == 0)) == true) (by kernel_rfl); clear hF195
    refine gp hF196 208 2 [] (((((pgetS u0 u1).2.2.2.1) == x9) && (psameg ((pgetS u0 u1).1) (⟨0, [], 0, 0, 0⟩ : Getter))) && ((((pgetS u0 u1).2.1).length : Int) == 0)) (.slice ao34 ((pgetS u0 u1).2.2.1).length cap35) rfl rfl ?_; intro a197 hF198; clear hF196
    refine gp hF198 209 2 [] (((((pgetS u0 u1).2.2.2.1) == x9) && (psameg ((pgetS u0 u1).1) (⟨0, [], 0, 0, 0⟩ : Getter))) && ((((pgetS u0 u1).2.1).length : Int) == 0)) (.int .i64 (((pgetS u0 u1).2.2.1).length : Int)) rfl rfl ?_; intro a199 hF200; clear hF198
    refine gp hF200 210 2 [] (((((pgetS u0 u1).2.2.2.1) == x9) && (psameg ((pgetS u0 u1).1) (⟨0, [], 0, 0, 0⟩ : Getter))) && ((((pgetS u0 u1).2.1).length : Int) == 0)) (.bool ((((pgetS u0 u1).2.2.1).length : Int) == 0)) rfl rfl ?_; intro a201 hF202; clear hF200
    refine st hF202 (.bool ((((((pgetS u0 u1).2.2.2.1) == x9) && (psameg ((pgetS u0 u1).1) (⟨0, [], 0, 0, 0⟩ : Getter))) && ((((pgetS u0 u1).2.1).length : Int) == 0)) && ((((pgetS u0 u1).2.2.1).length : Int) == 0))) (nog rfl _) rfl (by kernel_rfl) (pk_and hF202 (g := []) (m := 2) (b := ((((pgetS u0 u1).2.2.2.1) == x9) && (psameg ((pgetS u0 u1).1) (⟨0, [], 0, 0, 0⟩ : Getter))) && ((((pgetS u0 u1).2.1).length : Int) == 0)) (v := (((pgetS u0 u1).2.2.1).length : Int) == 0) rfl (by kernel_rfl) (by kernel_rfl) (by kernel_rfl) rfl) ?_; intro a203 hF204; clear hF202
    refine s1 hF204 4 (.bool ((((((pgetS u0 u1).2.2.2.1) == x9) && (psameg ((pgetS u0 u1).1) (⟨0, [], 0, 0, 0⟩ : Getter))) && ((((pgetS u0 u1).2.1).length : Int) == 0)) && ((((pgetS u0 u1).2.2.1).length : Int) == 0))) ?_; intro a205 hF206; clear hF204
    refine nlH (hQ163 _ _ ?_); clear hQ163 hQ163Q
    refine wp_ret ?_
    refine thr ?_
    refine rt (fn := Try.f14) (v := .bool ((((((pgetS u0 u1).2.2.2.1) == x9) && (psameg ((pgetS u0 u1).1) (⟨0, [], 0, 0, 0⟩ : Getter))) && ((((pgetS u0 u1).2.1).length : Int) == 0)) && ((((pgetS u0 u1).2.2.1).length : Int) == 0))) hF206 (re1 hF206 (fn := Try.f14) rfl (by kernel_rfl)) ?_
    exact ⟨(((((pgetS u0 u1).2.2.2.1) == x9) && (psameg ((pgetS u0 u1).1) (⟨0, [], 0, 0, 0⟩ : Getter))) && ((((pgetS u0 u1).2.1).length : Int) == 0)) && ((((pgetS u0 u1).2.2.1).length : Int) == 0), rfl, hp162, hM180.below⟩
   · -- no
    have hp207 := hp152.2 hb161; clear hp152
    refine wp_skip ?_
    refine thn ?_
    refine sqH ?_; intro hQ208Q hQ208
    refine s1 hF160 212 (.int .i64 ((pgetS u0 u1).2.2.2.1)) ?_; intro a209 hF210; clear hF160
    refine s1 hF210 213 (.bool (((pgetS u0 u1).2.2.2.1) == 0)) ?_; intro a211 hF212; clear hF210
    refine s1 hF212 214 (.bool (((pgetS u0 u1).2.2.2.1) == 0)) ?_; intro a213 hF214; clear hF212
    have hF215 := hF214.atom ((((pgetS u0 u1).2.2.2.1) == 0) == true) (by kernel_rfl); clear hF214
    refine gd hF215 (.agg #[.int .i64 (((pgetS u0 u1).1).Want), .slice ao28 (((pgetS u0 u1).1).Data).length cap29, .int .i64 (((pgetS u0 u1).1).Next), .int .i64 (((pgetS u0 u1).1).Block), .int .i64 (((pgetS u0 u1).1).Left)]) (m := 0) (cj := []) (bj := ((pgetS u0 u1).2.2.2.1) == 0) rfl rfl (by kernel_rfl) rfl (by kernel_rfl) (by kernel_rfl) (by kernel_rfl) (fun hg => lda hF215 hM150 1 (g := [0]) (b := b53) (off := 0) (k := 5) (cs := [.int .i64 (((pgetS u0 u1).1).Want), .slice ao28 (((pgetS u0 u1).1).Data).length cap29, .int .i64 (((pgetS u0 u1).1).Next), .int .i64 (((pgetS u0 u1).1).Block), .int .i64 (((pgetS u0 u1).1).Left)]) (vs := [.int .i64 (((pgetS u0 u1).1).Want), .slice ao28 (((pgetS u0 u1).1).Data).length cap29, .int .i64 (((pgetS u0 u1).1).Next), .int .i64 (((pgetS u0 u1).1).Block), .int .i64 (((pgetS u0 u1).1).Left)]) (ty := 71) rfl (by kernel_rfl) (by kernel_rfl) (by kernel_rfl) (by kernel_rfl) (by kernel_rfl) hg) ?_; intro a216 hF217; clear hF215
    refine gd hF217 (.agg #[.int .i64 yb111.Want, .slice aoyb111_0 yb111.Data.length capyb111_0, .int .i64 yb111.Next, .int .i64 yb111.Block, .int .i64 yb111.Left]) (m := 0) (cj := []) (bj := ((pgetS u0 u1).2.2.2.1) == 0) rfl rfl (by kernel_rfl) rfl (by kernel_rfl) (by kernel_rfl) (by kernel_rfl) (fun hg => lda hF217 hM150 0 (g := [0]) (b := b111) (off := 0) (k := 5) (cs := [.int .i64 yb111.Want, .slice aoyb111_0 yb111.Data.length capyb111_0, .int .i64 yb111.Next, .int .i64 yb111.Block, .int .i64 yb111.Left]) (vs := [.int .i64 yb111.Want, .slice aoyb111_0 yb111.Data.length capyb111_0, .int .i64 yb111.Next, .int .i64 yb111.Block, .int .i64 yb111.Left]) (ty := 71) rfl (by kernel_rfl) (by kernel_rfl) (by kernel_rfl) (by kernel_rfl) (by kernel_rfl) hg) ?_; intro a218 hF219; clear hF217
    refine gcl hF219 hM150 (.bool (psameg ((pgetS u0 u1).1) yb111)) 47 #[.agg #[.int .i64 (((pgetS u0 u1).1).Want), .slice ao28 (((pgetS u0 u1).1).Data).length cap29, .int .i64 (((pgetS u0 u1).1).Next), .int .i64 (((pgetS u0 u1).1).Block), .int .i64 (((pgetS u0 u1).1).Left)], .agg #[.int .i64 yb111.Want, .slice aoyb111_0 yb111.Data.length capyb111_0, .int .i64 yb111.Next, .int .i64 yb111.Block, .int .i64 yb111.Left]] (m := 0) (cj := []) (bj := ((pgetS u0 u1).2.2.2.1) == 0) rfl rfl (by kernel_rfl) rfl (by kernel_rfl) (by kernel_rfl) (by kernel_rfl) (fun _ => by kernel_rfl) (fun hg => psameg_fun ((pgetS u0 u1).1) yb111 ao28 cap29 aoyb111_0 capyb111_0 _ _ hs155 hsyb111_0 hM150.fz) ?_; intro a220 wd222 hF221 hM223; clear hF219 hM150
    refine st hF221 (.bool ((((pgetS u0 u1).2.2.2.1) == 0) && (psameg ((pgetS u0 u1).1) yb111))) (nog rfl _) rfl (by kernel_rfl) (pk_and hF221 (g := []) (m := 0) (b := ((pgetS u0 u1).2.2.2.1) == 0) (v := (psameg ((pgetS u0 u1).1) yb111)) rfl (by kernel_rfl) (by kernel_rfl) (by kernel_rfl) rfl) ?_; intro a224 hF225; clear hF221
    refine s1 hF225 219 (.bool ((((pgetS u0 u1).2.2.2.1) == 0) && (psameg ((pgetS u0 u1).1) yb111))) ?_; intro a226 hF227; clear hF225
    have hF228 := hF227.atom (((((pgetS u0 u1).2.2.2.1) == 0) && (psameg ((pgetS u0 u1).1) yb111)) == true) (by kernel_rfl); clear hF227
    refine gp hF228 220 1 [] ((((pgetS u0 u1).2.2.2.1) == 0) && (psameg ((pgetS u0 u1).1) yb111)) (.slice ao31 ((pgetS u0 u1).2.1).length cap32) rfl rfl ?_; intro a229 hF230; clear hF228
    refine gp hF230 221 1 [] ((((pgetS u0 u1).2.2.2.1) == 0) && (psameg ((pgetS u0 u1).1) yb111)) (.slice aox11 x11.length capx11) rfl rfl ?_; intro a231 hF232; clear hF230
    obtain ⟨Z233, hle234, hM235, hs236⟩ := hM223.freeze 2 rfl
    replace hs153 := hs153.mono hle234
    replace hs154 := hs154.mono hle234
    replace hs155 := hs155.mono hle234
    replace hsx11 := hsx11.mono hle234
    replace hsx12 := hsx12.mono hle234
    replace hsyb111_0 := hsyb111_0.mono hle234
    replace hleJ140 := hleJ140.mono hle234
    replace hle0 := Fz.le.trans hle0 hle234
    have hM237 : Mem w.heap.size [] w Z [.row b111 [.int .i64 yb111.Want, .slice aoyb111_0 yb111.Data.length capyb111_0, .int .i64 yb111.Next, .int .i64 yb111.Block, .int .i64 yb111.Left] 71, .row b53 [.int .i64 (((pgetS u0 u1).1).Want), .slice ao28 (((pgetS u0 u1).1).Data).length cap29, .int .i64 (((pgetS u0 u1).1).Next), .int .i64 (((pgetS u0 u1).1).Block), .int .i64 (((pgetS u0 u1).1).Left)] 71, .own (tyInt .u8) 5 ao34 cap35 ((pgetS u0 u1).2.2.1), .row b10 [.int .i64 u0.Want, .slice ao1 u0.Data.length cap2, .int .i64 u0.Next, .int .i64 u0.Block, .int .i64 u0.Left] 71] Z233 wd222 := hM235; clear hM235
    refine gcl hF232 hM237 (.bool (beqS ((pgetS u0 u1).2.1) x11)) 37 #[.slice ao31 ((pgetS u0 u1).2.1).length cap32, .slice aox11 x11.length capx11] (m := 1) (cj := []) (bj := (((pgetS u0 u1).2.2.2.1) == 0) && (psameg ((pgetS u0 u1).1) yb111)) rfl rfl (by kernel_rfl) rfl (by kernel_rfl) (by kernel_rfl) (by kernel_rfl) (fun _ => by kernel_rfl) (fun hg => beq_fun ((pgetS u0 u1).2.1) x11 ao31 cap32 aox11 capx11 _ _ hs236 hsx11 hM237.fz) ?_; intro a238 wd240 hF239 hM241; clear hF232 hM237
    refine st hF239 (.bool (((((pgetS u0 u1).2.2.2.1) == 0) && (psameg ((pgetS u0 u1).1) yb111)) && (beqS ((pgetS u0 u1).2.1) x11))) (nog rfl _) rfl (by kernel_rfl) (pk_and hF239 (g := []) (m := 1) (b := (((pgetS u0 u1).2.2.2.1) == 0) && (psameg ((pgetS u0 u1).1) yb111)) (v := (beqS ((pgetS u0 u1).2.1) x11)) rfl (by kernel_rfl) (by kernel_rfl) (by kernel_rfl) rfl) ?_; intro a242 hF243; clear hF239
    refine s1 hF243 224 (.bool (((((pgetS u0 u1).2.2.2.1) == 0) && (psameg ((pgetS u0 u1).1) yb111)) && (beqS ((pgetS u0 u1).2.1) x11))) ?_; intro a244 hF245; clear hF243
    have hF246 := hF245.atom ((((((pgetS u0 u1).2.2.2.1) == 0) && (psameg ((pgetS u0 u1).1) yb111)) && (beqS ((pgetS u0 u1).2.1) x11)) == true) (by kernel_rfl); clear hF245
    refine gp hF246 225 2 [] (((((pgetS u0 u1).2.2.2.1) == 0) && (psameg ((pgetS u0 u1).1) yb111)) && (beqS ((pgetS u0 u1).2.1) x11)) (.slice ao34 ((pgetS u0 u1).2.2.1).length cap35) rfl rfl ?_; intro a247 hF248; clear hF246
    refine gp hF248 226 2 [] (((((pgetS u0 u1).2.2.2.1) == 0) && (psameg ((pgetS u0 u1).1) yb111)) && (beqS ((pgetS u0 u1).2.1) x11)) (.slice aox12 x12.length capx12) rfl rfl ?_; intro a249 hF250; clear hF248
    obtain ⟨Z251, hle252, hM253, hs254⟩ := hM241.freeze 2 rfl
    replace hs153 := hs153.mono hle252
    replace hs154 := hs154.mono hle252
    replace hs155 := hs155.mono hle252
    replace hsx11 := hsx11.mono hle252
    replace hsx12 := hsx12.mono hle252
    replace hsyb111_0 := hsyb111_0.mono hle252
    replace hleJ140 := hleJ140.mono hle252
    replace hs236 := hs236.mono hle252
    replace hle0 := Fz.le.trans hle0 hle252
    have hM255 : Mem w.heap.size [] w Z [.row b111 [.int .i64 yb111.Want, .slice aoyb111_0 yb111.Data.length capyb111_0, .int .i64 yb111.Next, .int .i64 yb111.Block, .int .i64 yb111.Left] 71, .row b53 [.int .i64 (((pgetS u0 u1).1).Want), .slice ao28 (((pgetS u0 u1).1).Data).length cap29, .int .i64 (((pgetS u0 u1).1).Next), .int .i64 (((pgetS u0 u1).1).Block), .int .i64 (((pgetS u0 u1).1).Left)] 71, .row b10 [.int .i64 u0.Want, .slice ao1 u0.Data.length cap2, .int .i64 u0.Next, .int .i64 u0.Block, .int .i64 u0.Left] 71] Z251 wd240 := hM253; clear hM253
    refine gcl hF250 hM255 (.bool (beqS ((pgetS u0 u1).2.2.1) x12)) 37 #[.slice ao34 ((pgetS u0 u1).2.2.1).length cap35, .slice aox12 x12.length capx12] (m := 2) (cj := []) (bj := ((((pgetS u0 u1).2.2.2.1) == 0) && (psameg ((pgetS u0 u1).1) yb111)) && (beqS ((pgetS u0 u1).2.1) x11)) rfl rfl (by kernel_rfl) rfl (by kernel_rfl) (by kernel_rfl) (by kernel_rfl) (fun _ => by kernel_rfl) (fun hg => beq_fun ((pgetS u0 u1).2.2.1) x12 ao34 cap35 aox12 capx12 _ _ hs254 hsx12 hM255.fz) ?_; intro a256 wd258 hF257 hM259; clear hF250 hM255
    refine st hF257 (.bool ((((((pgetS u0 u1).2.2.2.1) == 0) && (psameg ((pgetS u0 u1).1) yb111)) && (beqS ((pgetS u0 u1).2.1) x11)) && (beqS ((pgetS u0 u1).2.2.1) x12))) (nog rfl _) rfl (by kernel_rfl) (pk_and hF257 (g := []) (m := 2) (b := ((((pgetS u0 u1).2.2.2.1) == 0) && (psameg ((pgetS u0 u1).1) yb111)) && (beqS ((pgetS u0 u1).2.1) x11)) (v := (beqS ((pgetS u0 u1).2.2.1) x12)) rfl (by kernel_rfl) (by kernel_rfl) (by kernel_rfl) rfl) ?_; intro a260 hF261; clear hF257
    refine s1 hF261 4 (.bool ((((((pgetS u0 u1).2.2.2.1) == 0) && (psameg ((pgetS u0 u1).1) yb111)) && (beqS ((pgetS u0 u1).2.1) x11)) && (beqS ((pgetS u0 u1).2.2.1) x12))) ?_; intro a262 hF263; clear hF261
    refine nlH (hQ208 _ _ ?_); clear hQ208 hQ208Q
    refine wp_ret ?_
    refine rt (fn := Try.f14) (v := .bool ((((((pgetS u0 u1).2.2.2.1) == 0) && (psameg ((pgetS u0 u1).1) yb111)) && (beqS ((pgetS u0 u1).2.1) x11)) && (beqS ((pgetS u0 u1).2.2.1) x12))) hF263 (re1 hF263 (fn := Try.f14) rfl (by kernel_rfl)) ?_
    exact ⟨(((((pgetS u0 u1).2.2.2.1) == 0) && (psameg ((pgetS u0 u1).1) yb111)) && (beqS ((pgetS u0 u1).2.1) x11)) && (beqS ((pgetS u0 u1).2.2.1) x12), rfl, hp207, hM259.below⟩
  have hle264 := Fz.le.refl Z37
  refine wp_block ?_
  refine sqH ?_; intro hQ265Q hQ265
  refine s1 hF141 41 (.int .i64 (rcheckg u0)) ?_; intro a266 hF267; clear hF141
  refine s1 hF267 42 (.bool ((rcheckg u0) != 0)) ?_; intro a268 hF269; clear hF267
  refine s1 hF269 40 (.bool ((rcheckg u0) != 0)) ?_; intro a270 hF271; clear hF269
  refine nlH (hQ265 _ _ ?_); clear hQ265 hQ265Q
  refine cd hF271 (t := (rcheckg u0) != 0) (by kernel_rfl) (fun hb272 => ?_) (fun hb272 => ?_)
  · -- yes
   have hp273 := hp142.1 hb272; clear hp142
   refine wp_skip ?_
   refine ibn ?_
   refine rd ?_
   exact hJ146 (rcheckg u0) [] [] (⟨0, [], 0, u0.Block, 0⟩ : Getter) none 0 none 0 none 0 Z37 ⟨hp273, (SlR.nil _ _), (SlR.nil _ _), (SlR.nil _ _), hle264⟩ _ _ ((hF271.region (by kernel_rfl) (by kernel_rfl)).anyβ _ (by kernel_rfl)) (hM136.keep (List.Sublist.cons _ (List.Sublist.cons_cons _ (List.Sublist.cons_cons _ (List.Sublist.cons_cons _ (List.Sublist.cons_cons _ (List.Sublist.cons_cons _ (List.Sublist.slnil))))))))
  · -- no
   have hp274 := hp142.2 hb272; clear hp142
   refine sqH ?_; intro hQ275Q hQ275
   refine s1 hF271 44 (.slice ao4 u1.length cap5) ?_; intro a276 hF277; clear hF271
   refine s1 hF277 45 (.int .i64 (u1.length : Int)) ?_; intro a278 hF279; clear hF277
   refine s1 hF279 46 (.bool ((u1.length : Int) == 0)) ?_; intro a280 hF281; clear hF279
   refine s1 hF281 43 (.bool ((u1.length : Int) == 0)) ?_; intro a282 hF283; clear hF281
   refine nlH (hQ275 _ _ ?_); clear hQ275 hQ275Q
   refine cd hF283 (t := (u1.length : Int) == 0) (by kernel_rfl) (fun hb284 => ?_) (fun hb284 => ?_)
   · -- yes
    have hp285 := hp274.1 hb284; clear hp274
    refine rgH ?_; intro hQ286Q hQ286
    refine s1 hF283 9 (.int .i64 7) ?_; intro a287 hF288; clear hF283
    refine nlH (hQ286 _ _ ?_); clear hQ286 hQ286Q
    refine ibn ?_
    refine rd ?_
    exact hJ146 7 [] [] (⟨0, [], 0, u0.Block, 0⟩ : Getter) none 0 none 0 none 0 Z37 ⟨hp285, (SlR.nil _ _), (SlR.nil _ _), (SlR.nil _ _), hle264⟩ _ _ ((hF288.region (by kernel_rfl) (by kernel_rfl)).anyβ _ (by kernel_rfl)) (hM136.keep (List.Sublist.cons _ (List.Sublist.cons_cons _ (List.Sublist.cons_cons _ (List.Sublist.cons_cons _ (List.Sublist.cons_cons _ (List.Sublist.cons_cons _ (List.Sublist.slnil))))))))
   · -- no
    have hp289 := hp274.2 hb284; clear hp274
    refine sqH ?_; intro hQ290Q hQ290
    refine s1 hF283 48 (.slice ao4 u1.length cap5) ?_; intro a291 hF292; clear hF283
    refine s1 hF292 49 (.int .i64 (u1.length : Int)) ?_; intro a293 hF294; clear hF292
    refine s1 hF294 50 (.bool (decide ((u1.length : Int) > 8))) ?_; intro a295 hF296; clear hF294
    refine s1 hF296 47 (.bool (decide ((u1.length : Int) > 8))) ?_; intro a297 hF298; clear hF296
    refine nlH (hQ290 _ _ ?_); clear hQ290 hQ290Q
    refine cd hF298 (t := decide ((u1.length : Int) > 8)) (by kernel_rfl) (fun hb299 => ?_) (fun hb299 => ?_)
    · -- yes
     have hp300 := hp289.1 hb299; clear hp289
     refine rgH ?_; intro hQ301Q hQ301
     refine s1 hF298 9 (.int .i64 2) ?_; intro a302 hF303; clear hF298
     refine nlH (hQ301 _ _ ?_); clear hQ301 hQ301Q
     refine ibn ?_
     refine rd ?_
     exact hJ146 2 [] [] (⟨0, [], 0, u0.Block, 0⟩ : Getter) none 0 none 0 none 0 Z37 ⟨hp300, (SlR.nil _ _), (SlR.nil _ _), (SlR.nil _ _), hle264⟩ _ _ ((hF303.region (by kernel_rfl) (by kernel_rfl)).anyβ _ (by kernel_rfl)) (hM136.keep (List.Sublist.cons _ (List.Sublist.cons_cons _ (List.Sublist.cons_cons _ (List.Sublist.cons_cons _ (List.Sublist.cons_cons _ (List.Sublist.cons_cons _ (List.Sublist.slnil))))))))
    · -- no
     have hp304 := hp289.2 hb299; clear hp289
     refine sqH ?_; intro hQ305Q hQ305
     refine s1 hF298 52 (.slice ao4 u1.length cap5) ?_; intro a306 hF307; clear hF298
     have hc308 := hp304.1; have hp309 := hp304.2; clear hp304
     refine ix hF307 (T := (tyInt .u8)) (xs := u1) hs6 (0 : Int) hc308 (k := .i64) (e := 5) (bytes := 1) (nog rfl _) rfl (by kernel_rfl) rfl (by kernel_rfl) (by kernel_rfl) (by kernel_rfl) ?_; intro b310 off311 cs312 q313 a317 hq314 hP315 hT316 hF318; clear hF307
     have hp319 := hp309 q313 hq314; clear hp309
     obtain rfl : cs312 = ([.int .u8 q313] : List Value) := hT316
     refine z1 hF318 hM136 54 hP315 0 (.int .u8 q313) rfl ?_; intro a320 hF321; clear hF318
     refine s1 hF321 55 (.bool (decide (q313 < 16))) ?_; intro a322 hF323; clear hF321
     refine s1 hF323 51 (.bool (decide (q313 < 16))) ?_; intro a324 hF325; clear hF323
     refine nlH (hQ305 _ _ ?_); clear hQ305 hQ305Q
     refine cd hF325 (t := decide (q313 < 16)) (by kernel_rfl) (fun hb326 => ?_) (fun hb326 => ?_)
     · -- yes
      have hp327 := hp319.1 hb326; clear hp319
      have hF328 : Fr 229 [] [⟨1, [], .slice ao4 u1.length cap5⟩, ⟨5, [], .pointer (some ⟨b53, 0, none⟩)⟩, ⟨6, [], .slice ao31 ((pgetS u0 u1).2.1).length cap32⟩, ⟨7, [], .slice ao34 ((pgetS u0 u1).2.2.1).length cap35⟩, ⟨8, [], .int .i64 ((pgetS u0 u1).2.2.2.1)⟩, ⟨9, [], .int .i64 (rcheckg u0)⟩, ⟨10, [], .pointer (some ⟨b111, 0, none⟩)⟩, ⟨11, [], .slice none 0 0⟩] a324 := hF325.region (by kernel_rfl) (by kernel_rfl); clear hF325
      refine sqH ?_; intro hQ329Q hQ329
      refine s1 hF328 56 (.slice ao4 u1.length cap5) ?_; intro a330 hF331; clear hF328
      have hc332 := hp327.1; have hp333 := hp327.2; clear hp327
      refine slL hF331 (T := (tyInt .u8)) (xs := u1) hs6 (1 : Int) hc332 (k := .i64) (e := 5) (bytes := 1) (nog rfl _) rfl (by kernel_rfl) rfl (by kernel_rfl) (by kernel_rfl) (by kernel_rfl) ?_; intro ao334 cap335 a338 hn336 hs337 hF339; clear hF331
      refine s1 hF339 12 (.slice ao334 (u1.drop (1 : Int).toNat).length cap335) ?_; intro a340 hF341; clear hF339
      refine nlH (hQ329 _ _ ?_); clear hQ329 hQ329Q
      refine sqH ?_; intro hQ342Q hQ342
      refine s1 hF341 58 (.slice ao4 u1.length cap5) ?_; intro a343 hF344; clear hF341
      have hc345 := hp333.1; have hp346 := hp333.2; clear hp333
      refine ix hF344 (T := (tyInt .u8)) (xs := u1) hs6 (0 : Int) hc345 (k := .i64) (e := 5) (bytes := 1) (nog rfl _) rfl (by kernel_rfl) rfl (by kernel_rfl) (by kernel_rfl) (by kernel_rfl) ?_; intro b347 off348 cs349 q350 a354 hq351 hP352 hT353 hF355; clear hF344
      have hp356 := hp346 q350 hq351; clear hp346
      obtain rfl : cs349 = ([.int .u8 q350] : List Value) := hT353
      refine z1 hF355 hM136 60 hP352 0 (.int .u8 q350) rfl ?_; intro a357 hF358; clear hF355
      refine s1 hF358 61 (.bool (q350 == 0)) ?_; intro a359 hF360; clear hF358
      refine s1 hF360 62 (.bool (q350 == 0)) ?_; intro a361 hF362; clear hF360
      have hF363 := hF362.atom ((q350 == 0) == false) (by kernel_rfl); clear hF362
      refine gp hF363 63 0 [] (q350 == 0) (.slice ao4 u1.length cap5) rfl rfl ?_; intro a364 hF365; clear hF363
      rcases Bool.eq_false_or_eq_true (q350 == 0) with hb366 | hb366
      · -- true
       have hp367 := hp356.1 hb366; clear hp356
       have hF368 := hF365.reval (d := 62) (c := []) (v := .bool (q350 == 0)) (by kernel_rfl) (.bool true) (by rw [hb366]); clear hF365
       have hF369 := hF368.setc (d := 63) (c := [0]) (v := .slice ao4 u1.length cap5) (by kernel_rfl) (v' := undef) (by rw [hb366]; kernel_rfl); clear hF368
       refine sk hF369 (b := true) rfl rfl (by kernel_rfl) (by kernel_rfl) rfl rfl (by kernel_rfl) ?_; intro a370 hF371; clear hF369
       refine sk hF371 (b := true) rfl rfl (by kernel_rfl) (by kernel_rfl) rfl rfl (by kernel_rfl) ?_; intro a372 hF373; clear hF371
       refine sk hF373 (b := true) rfl rfl (by kernel_rfl) (by kernel_rfl) rfl rfl (by kernel_rfl) ?_; intro a374 hF375; clear hF373
       refine s1 hF375 67 (.bool true) ?_; intro a376 hF377; clear hF375
       refine s1 hF377 68 (.bool true) ?_; intro a378 hF379; clear hF377
       refine sk hF379 (b := true) rfl rfl (by kernel_rfl) (by kernel_rfl) rfl rfl (by kernel_rfl) ?_; intro a380 hF381; clear hF379
       refine sk hF381 (b := true) rfl rfl (by kernel_rfl) (by kernel_rfl) rfl rfl (by kernel_rfl) ?_; intro a382 hF383; clear hF381
       refine sk hF383 (b := true) rfl rfl (by kernel_rfl) (by kernel_rfl) rfl rfl (by kernel_rfl) ?_; intro a384 hF385; clear hF383
       refine sk hF385 (b := true) rfl rfl (by kernel_rfl) (by kernel_rfl) rfl rfl (by kernel_rfl) ?_; intro a386 hF387; clear hF385
       refine sk hF387 (b := true) rfl rfl (by kernel_rfl) (by kernel_rfl) rfl rfl (by kernel_rfl) ?_; intro a388 hF389; clear hF387
       refine sk hF389 (b := true) rfl rfl (by kernel_rfl) (by kernel_rfl) rfl rfl (by kernel_rfl) ?_; intro a390 hF391; clear hF389
       refine sk hF391 (b := true) rfl rfl (by kernel_rfl) (by kernel_rfl) rfl rfl (by kernel_rfl) ?_; intro a392 hF393; clear hF391
       refine sk hF393 (b := true) rfl rfl (by kernel_rfl) (by kernel_rfl) rfl rfl (by kernel_rfl) ?_; intro a394 hF395; clear hF393
       refine s1 hF395 77 (.bool true) ?_; intro a396 hF397; clear hF395
       refine nlH (hQ342 _ _ ?_); clear hQ342 hQ342Q
       refine cdT hF397 (by kernel_rfl) ?_
       have hF398 : Fr 229 [] [⟨5, [], .pointer (some ⟨b53, 0, none⟩)⟩, ⟨6, [], .slice ao31 ((pgetS u0 u1).2.1).length cap32⟩, ⟨7, [], .slice ao34 ((pgetS u0 u1).2.2.1).length cap35⟩, ⟨8, [], .int .i64 ((pgetS u0 u1).2.2.2.1)⟩, ⟨10, [], .pointer (some ⟨b111, 0, none⟩)⟩, ⟨11, [], .slice none 0 0⟩, ⟨12, [], .slice ao334 (u1.drop (1 : Int).toNat).length cap335⟩] a396 := hF397.region (by kernel_rfl) (by kernel_rfl); clear hF397
       refine rgH ?_; intro hQ399Q hQ399
       refine s1 hF398 9 (.int .i64 4) ?_; intro a400 hF401; clear hF398
       refine nlH (hQ399 _ _ ?_); clear hQ399 hQ399Q
       refine ibn ?_
       refine rd ?_
       exact hJ146 4 [] (u1.drop (1 : Int).toNat) (⟨0, [], 0, u0.Block, 0⟩ : Getter) none 0 ao334 cap335 none 0 Z37 ⟨hp367, (SlR.nil _ _), hs337, (SlR.nil _ _), hle264⟩ _ _ ((hF401.region (by kernel_rfl) (by kernel_rfl)).anyβ _ (by kernel_rfl)) (hM136.keep (List.Sublist.cons _ (List.Sublist.cons_cons _ (List.Sublist.cons_cons _ (List.Sublist.cons_cons _ (List.Sublist.cons_cons _ (List.Sublist.cons_cons _ (List.Sublist.slnil))))))))
      · -- false
       have hp402 := hp356.2 hb366; clear hp356
       have hF403 := hF365.reval (d := 62) (c := []) (v := .bool (q350 == 0)) (by kernel_rfl) (.bool false) (by rw [hb366]); clear hF365
       have hF404 := hF403.setc (d := 63) (c := [0]) (v := .slice ao4 u1.length cap5) (by kernel_rfl) (v' := .slice ao4 u1.length cap5) (by rw [hb366]; kernel_rfl); clear hF403
       have hc405 := hp402.1; have hp406 := hp402.2; clear hp402
       refine ix hF404 (T := (tyInt .u8)) (xs := u1) hs6 (0 : Int) hc405 (k := .i64) (e := 5) (bytes := 1) (by rw [wanted_of hF404 (b := false) rfl rfl (by kernel_rfl) (by kernel_rfl)]; rfl) rfl (by kernel_rfl) rfl (by kernel_rfl) (by kernel_rfl) (by kernel_rfl) ?_; intro b407 off408 cs409 q410 a414 hq411 hP412 hT413 hF415; clear hF404
       have hp416 := hp406 q410 hq411; clear hp406
       obtain rfl : cs409 = ([.int .u8 q410] : List Value) := hT413
       refine st hF415 (.int .u8 q410) (by rw [wanted_of hF415 (b := false) rfl rfl (by kernel_rfl) (by kernel_rfl)]; rfl) rfl (by kernel_rfl) (lz hF415 hM136.fz hP412 0 (g := []) rfl (by kernel_rfl) (by kernel_rfl) (by kernel_rfl) rfl) ?_; intro a417 hF418; clear hF415
       refine st hF418 (.bool (decide (q410 > 7))) (by rw [wanted_of hF418 (b := false) rfl rfl (by kernel_rfl) (by kernel_rfl)]; rfl) rfl (by kernel_rfl) (p0 hF418 (by kernel_rfl)) ?_; intro a419 hF420; clear hF418
       refine s1 hF420 67 (.bool (decide (q410 > 7))) ?_; intro a421 hF422; clear hF420
       refine s1 hF422 68 (.bool (decide (q410 > 7))) ?_; intro a423 hF424; clear hF422
       have hF425 := hF424.atom ((decide (q410 > 7)) == false) (by kernel_rfl); clear hF424
       refine gp hF425 69 1 [] (decide (q410 > 7)) (.slice ao4 u1.length cap5) rfl rfl ?_; intro a426 hF427; clear hF425
       refine gp hF427 70 1 [] (decide (q410 > 7)) (.int .i64 (u1.length : Int)) rfl rfl ?_; intro a428 hF429; clear hF427
       refine gp hF429 71 1 [] (decide (q410 > 7)) (.slice ao4 u1.length cap5) rfl rfl ?_; intro a430 hF431; clear hF429
       rcases Bool.eq_false_or_eq_true (decide (q410 > 7)) with hb432 | hb432
       · -- true
        have hp433 := hp416.1 hb432; clear hp416
        have hF434 := hF431.reval (d := 68) (c := []) (v := .bool (decide (q410 > 7))) (by kernel_rfl) (.bool true) (by rw [hb432]); clear hF431
        have hF435 := hF434.setc (d := 69) (c := [1]) (v := .slice ao4 u1.length cap5) (by kernel_rfl) (v' := undef) (by rw [hb432]; kernel_rfl); clear hF434
        have hF436 := hF435.setc (d := 70) (c := [1]) (v := .int .i64 (u1.length : Int)) (by kernel_rfl) (v' := undef) (by rw [hb432]; kernel_rfl); clear hF435
        have hF437 := hF436.setc (d := 71) (c := [1]) (v := .slice ao4 u1.length cap5) (by kernel_rfl) (v' := undef) (by rw [hb432]; kernel_rfl); clear hF436
        refine sk hF437 (b := true) rfl rfl (by kernel_rfl) (by kernel_rfl) rfl rfl (by kernel_rfl) ?_; intro a438 hF439; clear hF437
        refine sk hF439 (b := true) rfl rfl (by kernel_rfl) (by kernel_rfl) rfl rfl (by kernel_rfl) ?_; intro a440 hF441; clear hF439
        refine sk hF441 (b := true) rfl rfl (by kernel_rfl) (by kernel_rfl) rfl rfl (by kernel_rfl) ?_; intro a442 hF443; clear hF441
        refine sk hF443 (b := true) rfl rfl (by kernel_rfl) (by kernel_rfl) rfl rfl (by kernel_rfl) ?_; intro a444 hF445; clear hF443
        refine sk hF445 (b := true) rfl rfl (by kernel_rfl) (by kernel_rfl) rfl rfl (by kernel_rfl) ?_; intro a446 hF447; clear hF445
        refine s1 hF447 77 (.bool true) ?_; intro a448 hF449; clear hF447
        refine nlH (hQ342 _ _ ?_); clear hQ342 hQ342Q
        refine cdT hF449 (by kernel_rfl) ?_
        have hF450 : Fr 229 [] [⟨5, [], .pointer (some ⟨b53, 0, none⟩)⟩, ⟨6, [], .slice ao31 ((pgetS u0 u1).2.1).length cap32⟩, ⟨7, [], .slice ao34 ((pgetS u0 u1).2.2.1).length cap35⟩, ⟨8, [], .int .i64 ((pgetS u0 u1).2.2.2.1)⟩, ⟨10, [], .pointer (some ⟨b111, 0, none⟩)⟩, ⟨11, [], .slice none 0 0⟩, ⟨12, [], .slice ao334 (u1.drop (1 : Int).toNat).length cap335⟩] a448 := hF449.region (by kernel_rfl) (by kernel_rfl); clear hF449
        refine rgH ?_; intro hQ451Q hQ451
        refine s1 hF450 9 (.int .i64 4) ?_; intro a452 hF453; clear hF450
        refine nlH (hQ451 _ _ ?_); clear hQ451 hQ451Q
        refine ibn ?_
        refine rd ?_
        exact hJ146 4 [] (u1.drop (1 : Int).toNat) (⟨0, [], 0, u0.Block, 0⟩ : Getter) none 0 ao334 cap335 none 0 Z37 ⟨hp433, (SlR.nil _ _), hs337, (SlR.nil _ _), hle264⟩ _ _ ((hF453.region (by kernel_rfl) (by kernel_rfl)).anyβ _ (by kernel_rfl)) (hM136.keep (List.Sublist.cons _ (List.Sublist.cons_cons _ (List.Sublist.cons_cons _ (List.Sublist.cons_cons _ (List.Sublist.cons_cons _ (List.Sublist.cons_cons _ (List.Sublist.slnil))))))))
       · -- false
        have hp454 := hp416.2 hb432; clear hp416
        have hF455 := hF431.reval (d := 68) (c := []) (v := .bool (decide (q410 > 7))) (by kernel_rfl) (.bool false) (by rw [hb432]); clear hF431
        have hF456 := hF455.setc (d := 69) (c := [1]) (v := .slice ao4 u1.length cap5) (by kernel_rfl) (v' := .slice ao4 u1.length cap5) (by rw [hb432]; kernel_rfl); clear hF455
        have hF457 := hF456.setc (d := 70) (c := [1]) (v := .int .i64 (u1.length : Int)) (by kernel_rfl) (v' := .int .i64 (u1.length : Int)) (by rw [hb432]; kernel_rfl); clear hF456
        have hF458 := hF457.setc (d := 71) (c := [1]) (v := .slice ao4 u1.length cap5) (by kernel_rfl) (v' := .slice ao4 u1.length cap5) (by rw [hb432]; kernel_rfl); clear hF457
        have hc459 := hp454.1; have hp460 := hp454.2; clear hp454
        refine ix hF458 (T := (tyInt .u8)) (xs := u1) hs6 (0 : Int) hc459 (k := .i64) (e := 5) (bytes := 1) (by rw [wanted_of hF458 (b := false) rfl rfl (by kernel_rfl) (by kernel_rfl)]; rfl) rfl (by kernel_rfl) rfl (by kernel_rfl) (by kernel_rfl) (by kernel_rfl) ?_; intro b461 off462 cs463 q464 a468 hq465 hP466 hT467 hF469; clear hF458
        have hp470 := hp460 q464 hq465; clear hp460
        obtain rfl : cs463 = ([.int .u8 q464] : List Value) := hT467
        refine st hF469 (.int .u8 q464) (by rw [wanted_of hF469 (b := false) rfl rfl (by kernel_rfl) (by kernel_rfl)]; rfl) rfl (by kernel_rfl) (lz hF469 hM136.fz hP466 0 (g := []) rfl (by kernel_rfl) (by kernel_rfl) (by kernel_rfl) rfl) ?_; intro a471 hF472; clear hF469
        refine st hF472 (.int .i64 (w64 q464)) (by rw [wanted_of hF472 (b := false) rfl rfl (by kernel_rfl) (by kernel_rfl)]; rfl) rfl (by kernel_rfl) (p0 hF472 (by kernel_rfl)) ?_; intro a473 hF474; clear hF472
        refine st hF474 (.int .i64 (w64 ((w64 q464) + 1))) (by rw [wanted_of hF474 (b := false) rfl rfl (by kernel_rfl) (by kernel_rfl)]; rfl) rfl (by kernel_rfl) (p0 hF474 (by kernel_rfl)) ?_; intro a475 hF476; clear hF474
        refine st hF476 (.bool ((u1.length : Int) != (w64 ((w64 q464) + 1)))) (by rw [wanted_of hF476 (b := false) rfl rfl (by kernel_rfl) (by kernel_rfl)]; rfl) rfl (by kernel_rfl) (p0 hF476 (by kernel_rfl)) ?_; intro a477 hF478; clear hF476
        refine s1 hF478 77 (.bool ((u1.length : Int) != (w64 ((w64 q464) + 1)))) ?_; intro a479 hF480; clear hF478
        refine nlH (hQ342 _ _ ?_); clear hQ342 hQ342Q
        refine cd hF480 (t := (u1.length : Int) != (w64 ((w64 q464) + 1))) (by kernel_rfl) (fun hb481 => ?_) (fun hb481 => ?_)
        · -- yes
         have hp482 := hp470.1 hb481; clear hp470
         have hF483 : Fr 229 [] [⟨5, [], .pointer (some ⟨b53, 0, none⟩)⟩, ⟨6, [], .slice ao31 ((pgetS u0 u1).2.1).length cap32⟩, ⟨7, [], .slice ao34 ((pgetS u0 u1).2.2.1).length cap35⟩, ⟨8, [], .int .i64 ((pgetS u0 u1).2.2.2.1)⟩, ⟨10, [], .pointer (some ⟨b111, 0, none⟩)⟩, ⟨11, [], .slice none 0 0⟩, ⟨12, [], .slice ao334 (u1.drop (1 : Int).toNat).length cap335⟩] a479 := hF480.region (by kernel_rfl) (by kernel_rfl); clear hF480
         refine rgH ?_; intro hQ484Q hQ484
         refine s1 hF483 9 (.int .i64 4) ?_; intro a485 hF486; clear hF483
         refine nlH (hQ484 _ _ ?_); clear hQ484 hQ484Q
         refine ibn ?_
         refine rd ?_
         exact hJ146 4 [] (u1.drop (1 : Int).toNat) (⟨0, [], 0, u0.Block, 0⟩ : Getter) none 0 ao334 cap335 none 0 Z37 ⟨hp482, (SlR.nil _ _), hs337, (SlR.nil _ _), hle264⟩ _ _ ((hF486.region (by kernel_rfl) (by kernel_rfl)).anyβ _ (by kernel_rfl)) (hM136.keep (List.Sublist.cons _ (List.Sublist.cons_cons _ (List.Sublist.cons_cons _ (List.Sublist.cons_cons _ (List.Sublist.cons_cons _ (List.Sublist.cons_cons _ (List.Sublist.slnil))))))))
        · -- no
         have hp487 := hp470.2 hb481; clear hp470
         refine wp_skip ?_
         refine ibn ?_
         refine rd ?_
         exact hJ146 (rcheckg u0) [] (u1.drop (1 : Int).toNat) (⟨0, [], 0, u0.Block, 0⟩ : Getter) none 0 ao334 cap335 none 0 Z37 ⟨hp487, (SlR.nil _ _), hs337, (SlR.nil _ _), hle264⟩ _ _ ((hF480.region (by kernel_rfl) (by kernel_rfl)).anyβ _ (by kernel_rfl)) (hM136.keep (List.Sublist.cons _ (List.Sublist.cons_cons _ (List.Sublist.cons_cons _ (List.Sublist.cons_cons _ (List.Sublist.cons_cons _ (List.Sublist.cons_cons _ (List.Sublist.slnil))))))))
     · -- no
      have hp488 := hp319.2 hb326; clear hp319
      have hF489 : Fr 229 [] [⟨1, [], .slice ao4 u1.length cap5⟩, ⟨2, [], .pointer (some ⟨b10, 0, none⟩)⟩, ⟨5, [], .pointer (some ⟨b53, 0, none⟩)⟩, ⟨6, [], .slice ao31 ((pgetS u0 u1).2.1).length cap32⟩, ⟨7, [], .slice ao34 ((pgetS u0 u1).2.2.1).length cap35⟩, ⟨8, [], .int .i64 ((pgetS u0 u1).2.2.2.1)⟩, ⟨9, [], .int .i64 (rcheckg u0)⟩, ⟨10, [], .pointer (some ⟨b111, 0, none⟩)⟩, ⟨11, [], .slice none 0 0⟩, ⟨12, [], .slice none 0 0⟩, ⟨13, [], .slice (some ⟨b132, 0, none⟩) 3 3⟩] a324 := hF325.region (by kernel_rfl) (by kernel_rfl); clear hF325
      refine sqH ?_; intro hQ490Q hQ490
      refine s1 hF489 79 (.slice ao4 u1.length cap5) ?_; intro a491 hF492; clear hF489
      have hc493 := hp488.1; have hp494 := hp488.2; clear hp488
      refine ix hF492 (T := (tyInt .u8)) (xs := u1) hs6 (0 : Int) hc493 (k := .i64) (e := 5) (bytes := 1) (nog rfl _) rfl (by kernel_rfl) rfl (by kernel_rfl) (by kernel_rfl) (by kernel_rfl) ?_; intro b495 off496 cs497 q498 a502 hq499 hP500 hT501 hF503; clear hF492
      have hp504 := hp494 q498 hq499; clear hp494
      obtain rfl : cs497 = ([.int .u8 q498] : List Value) := hT501
      refine z1 hF503 hM136 81 hP500 0 (.int .u8 q498) rfl ?_; intro a505 hF506; clear hF503
      refine s1 hF506 82 (.bool (decide (q498 < 32))) ?_; intro a507 hF508; clear hF506
      refine s1 hF508 78 (.bool (decide (q498 < 32))) ?_; intro a509 hF510; clear hF508
      refine nlH (hQ490 _ _ ?_); clear hQ490 hQ490Q
      refine cd hF510 (t := decide (q498 < 32)) (by kernel_rfl) (fun hb511 => ?_) (fun hb511 => ?_)
      · -- yes
       have hp512 := hp504.1 hb511; clear hp504
       refine sqH ?_; intro hQ513Q hQ513
       refine s1 hF510 14 (.int .i64 0) ?_; intro a514 hF515; clear hF510
       refine nlH (hQ513 _ _ ?_); clear hQ513 hQ513Q
       refine wp_seq ?_
       refine sqH ?_; intro hQ516Q hQ516
       refine s1 hF515 83 (.slice ao4 u1.length cap5) ?_; intro a517 hF518; clear hF515
       refine s1 hF518 84 (.int .i64 (u1.length : Int)) ?_; intro a519 hF520; clear hF518
       refine s1 hF520 85 (.bool (decide ((u1.length : Int) > 1))) ?_; intro a521 hF522; clear hF520
       refine nlH (hQ516 _ _ ?_); clear hQ516 hQ516Q
       refine cd hF522 (t := decide ((u1.length : Int) > 1)) (by kernel_rfl) (fun hb523 => ?_) (fun hb523 => ?_)
       · -- yes
        have hp524 := hp512.1 hb523; clear hp512
        have hF525 : Fr 229 [] [⟨1, [], .slice ao4 u1.length cap5⟩, ⟨2, [], .pointer (some ⟨b10, 0, none⟩)⟩, ⟨5, [], .pointer (some ⟨b53, 0, none⟩)⟩, ⟨6, [], .slice ao31 ((pgetS u0 u1).2.1).length cap32⟩, ⟨7, [], .slice ao34 ((pgetS u0 u1).2.2.1).length cap35⟩, ⟨8, [], .int .i64 ((pgetS u0 u1).2.2.2.1)⟩, ⟨9, [], .int .i64 (rcheckg u0)⟩, ⟨10, [], .pointer (some ⟨b111, 0, none⟩)⟩, ⟨11, [], .slice none 0 0⟩, ⟨12, [], .slice none 0 0⟩, ⟨13, [], .slice (some ⟨b132, 0, none⟩) 3 3⟩] a521 := hF522.region (by kernel_rfl) (by kernel_rfl); clear hF522
        refine qrgH mixed (by kernel_rfl) hM136 ?_; intro hQ526Q hQ526
        refine q1 hF525 86 (.slice ao4 u1.length cap5) ?_; intro a528 hF529; clear hF525
        have hc531 := hp524.1; have hp532 := hp524.2; clear hp524
        refine qix hF529 (T := (tyInt .u8)) (xs := u1) hs6 (0 : Int) hc531 (k := .i64) (e := 5) (bytes := 1) (nog rfl _) rfl (by kernel_rfl) rfl (by kernel_rfl) (by kernel_rfl) (by kernel_rfl) ?_; intro b533 off534 cs535 q536 a540 hq537 hP538 hT539 hF541; clear hF529
        have hp542 := hp532 q536 hq537; clear hp532
        obtain rfl : cs535 = ([.int .u8 q536] : List Value) := hT539
        refine qst hF541 (.int .u8 q536) (nog rfl _) rfl (by kernel_rfl) (fun v543 hC => lz hF541 hC.fz hP538 0 (g := []) rfl (by kernel_rfl) (by kernel_rfl) (by kernel_rfl) rfl) ?_; intro a544 hF545; clear hF541
        refine q1 hF545 89 (.int .u8 (w8 (q536 - 16))) ?_; intro a547 hF548; clear hF545
        refine q1 hF548 90 (.int .i64 (w64 (w8 (q536 - 16)))) ?_; intro a550 hF551; clear hF548
        refine q1 hF551 91 (.int .i64 (w64 ((w64 (w8 (q536 - 16))) * 256))) ?_; intro a553 hF554; clear hF551
        refine q1 hF554 92 (.slice ao4 u1.length cap5) ?_; intro a556 hF557; clear hF554
        have hc559 := hp542.1; have hp560 := hp542.2; clear hp542
        refine qix hF557 (T := (tyInt .u8)) (xs := u1) hs6 (1 : Int) hc559 (k := .i64) (e := 5) (bytes := 1) (nog rfl _) rfl (by kernel_rfl) rfl (by kernel_rfl) (by kernel_rfl) (by kernel_rfl) ?_; intro b561 off562 cs563 q564 a568 hq565 hP566 hT567 hF569; clear hF557
        have hp570 := hp560 q564 hq565; clear hp560
        obtain rfl : cs563 = ([.int .u8 q564] : List Value) := hT567
        refine qst hF569 (.int .u8 q564) (nog rfl _) rfl (by kernel_rfl) (fun v571 hC => lz hF569 hC.fz hP566 0 (g := []) rfl (by kernel_rfl) (by kernel_rfl) (by kernel_rfl) rfl) ?_; intro a572 hF573; clear hF569
        refine q1 hF573 95 (.int .i64 (w64 q564)) ?_; intro a575 hF576; clear hF573
        refine q1 hF576 96 (.int .i64 (w64 ((w64 ((w64 (w8 (q536 - 16))) * 256)) + (w64 q564)))) ?_; intro a578 hF579; clear hF576
        refine q1 hF579 14 (.int .i64 (w64 ((w64 ((w64 (w8 (q536 - 16))) * 256)) + (w64 q564)))) ?_; intro a581 hF582; clear hF579
        refine qnl (hQ526 _ ?_); clear hQ526 hQ526Q; intro wd583 hM584; clear hM136
        refine thn ?_
        refine wp_block ?_
        refine sqH ?_; intro hQ585Q hQ585
        refine s1 hF582 107 (.slice ao4 u1.length cap5) ?_; intro a586 hF587; clear hF582
        refine s1 hF587 108 (.int .i64 (u1.length : Int)) ?_; intro a588 hF589; clear hF587
        refine s1 hF589 109 (.bool ((u1.length : Int) != 8)) ?_; intro a590 hF591; clear hF589
        refine s1 hF591 110 (.bool ((u1.length : Int) != 8)) ?_; intro a592 hF593; clear hF591
        have hF594 := hF593.atom (((u1.length : Int) != 8) == false) (by kernel_rfl); clear hF593
        refine gp hF594 111 0 [] ((u1.length : Int) != 8) (.int .i64 (w64 ((w64 ((w64 (w8 (q536 - 16))) * 256)) + (w64 q564)))) rfl rfl ?_; intro a595 hF596; clear hF594
        refine gp hF596 112 0 [] ((u1.length : Int) != 8) (.bool (decide ((w64 ((w64 ((w64 (w8 (q536 - 16))) * 256)) + (w64 q564))) < 8))) rfl rfl ?_; intro a597 hF598; clear hF596
        refine st hF598 (.bool (((u1.length : Int) != 8) || (decide ((w64 ((w64 ((w64 (w8 (q536 - 16))) * 256)) + (w64 q564))) < 8)))) (nog rfl _) rfl (by kernel_rfl) (pk_or hF598 (g := []) (m := 0) (b := (u1.length : Int) != 8) (v := decide ((w64 ((w64 ((w64 (w8 (q536 - 16))) * 256)) + (w64 q564))) < 8)) rfl (by kernel_rfl) (by kernel_rfl) (by kernel_rfl) rfl) ?_; intro a599 hF600; clear hF598
        refine s1 hF600 106 (.bool (((u1.length : Int) != 8) || (decide ((w64 ((w64 ((w64 (w8 (q536 - 16))) * 256)) + (w64 q564))) < 8)))) ?_; intro a601 hF602; clear hF600
        refine nlH (hQ585 _ _ ?_); clear hQ585 hQ585Q
        refine cd hF602 (t := ((u1.length : Int) != 8) || (decide ((w64 ((w64 ((w64 (w8 (q536 - 16))) * 256)) + (w64 q564))) < 8))) (by kernel_rfl) (fun hb603 => ?_) (fun hb603 => ?_)
        · -- yes
         have hp604 := hp570.1 hb603; clear hp570
         have hF605 : Fr 229 [] [⟨5, [], .pointer (some ⟨b53, 0, none⟩)⟩, ⟨6, [], .slice ao31 ((pgetS u0 u1).2.1).length cap32⟩, ⟨7, [], .slice ao34 ((pgetS u0 u1).2.2.1).length cap35⟩, ⟨8, [], .int .i64 ((pgetS u0 u1).2.2.2.1)⟩, ⟨10, [], .pointer (some ⟨b111, 0, none⟩)⟩, ⟨11, [], .slice none 0 0⟩, ⟨12, [], .slice none 0 0⟩] a601 := hF602.region (by kernel_rfl) (by kernel_rfl); clear hF602
         refine rgH ?_; intro hQ606Q hQ606
         refine s1 hF605 9 (.int .i64 4) ?_; intro a607 hF608; clear hF605
         refine nlH (hQ606 _ _ ?_); clear hQ606 hQ606Q
         refine ibn ?_
         refine ibn ?_
         refine rd ?_
         exact hJ146 4 [] [] (⟨0, [], 0, u0.Block, 0⟩ : Getter) none 0 none 0 none 0 Z37 ⟨hp604, (SlR.nil _ _), (SlR.nil _ _), (SlR.nil _ _), hle264⟩ _ _ ((hF608.region (by kernel_rfl) (by kernel_rfl)).anyβ _ (by kernel_rfl)) (hM584.keep (List.Sublist.cons _ (List.Sublist.cons_cons _ (List.Sublist.cons_cons _ (List.Sublist.cons_cons _ (List.Sublist.cons_cons _ (List.Sublist.cons_cons _ (List.Sublist.slnil))))))))
        · -- no
         have hp609 := hp570.2 hb603; clear hp570
         have hF610 : Fr 229 [] [⟨1, [], .slice ao4 u1.length cap5⟩, ⟨2, [], .pointer (some ⟨b10, 0, none⟩)⟩, ⟨5, [], .pointer (some ⟨b53, 0, none⟩)⟩, ⟨6, [], .slice ao31 ((pgetS u0 u1).2.1).length cap32⟩, ⟨7, [], .slice ao34 ((pgetS u0 u1).2.2.1).length cap35⟩, ⟨8, [], .int .i64 ((pgetS u0 u1).2.2.2.1)⟩, ⟨9, [], .int .i64 (rcheckg u0)⟩, ⟨10, [], .pointer (some ⟨b111, 0, none⟩)⟩, ⟨12, [], .slice none 0 0⟩, ⟨13, [], .slice (some ⟨b132, 0, none⟩) 3 3⟩, ⟨14, [], .int .i64 (w64 ((w64 ((w64 (w8 (q536 - 16))) * 256)) + (w64 q564)))⟩] a601 := hF602.region (by kernel_rfl) (by kernel_rfl); clear hF602
         refine sqH ?_; intro hQ611Q hQ611
         refine s1 hF610 115 (.int .i64 (w64 ((w64 ((w64 (w8 (q536 - 16))) * 256)) + (w64 q564)))) ?_; intro a612 hF613; clear hF610
         refine s1 hF613 116 (.bool (decide ((w64 ((w64 ((w64 (w8 (q536 - 16))) * 256)) + (w64 q564))) > 300))) ?_; intro a614 hF615; clear hF613
         refine s1 hF615 114 (.bool (decide ((w64 ((w64 ((w64 (w8 (q536 - 16))) * 256)) + (w64 q564))) > 300))) ?_; intro a616 hF617; clear hF615
         refine nlH (hQ611 _ _ ?_); clear hQ611 hQ611Q
         refine cd hF617 (t := decide ((w64 ((w64 ((w64 (w8 (q536 - 16))) * 256)) + (w64 q564))) > 300)) (by kernel_rfl) (fun hb618 => ?_) (fun hb618 => ?_)
         · -- yes
          have hp619 := hp609.1 hb618; clear hp609
          refine rgH ?_; intro hQ620Q hQ620
          refine sn hF617 hM584 (fun b => .slice (some ⟨b, 0, none⟩) 3 3) [.int .u8 50, .int .u8 0, .int .u8 0] 5 (nog rfl _) rfl (by kernel_rfl) (by kernel_rfl) ?_; intro b621 a622 wd624 hF623 hM625; clear hF617 hM584
          refine s1 hF623 11 (.slice (some ⟨b621, 0, none⟩) 3 3) ?_; intro a626 hF627; clear hF623
          refine nlH (hQ620 _ _ ?_); clear hQ620 hQ620Q
          refine ibn ?_
          refine ibn ?_
          refine rd ?_
          have hM628 : Mem w.heap.size [] w Z [.own (tyInt .u8) 5 (some ⟨b621, 0, none⟩) 3 ([50, 0, 0] : List Int), .row b132 [.int .u8 48, .int .u8 (w8 u0.Block), .int .u8 0] 5, .row b111 [.int .i64 0, .slice none 0 0, .int .i64 0, .int .i64 u0.Block, .int .i64 0] 71, .row b53 [.int .i64 (((pgetS u0 u1).1).Want), .slice ao28 (((pgetS u0 u1).1).Data).length cap29, .int .i64 (((pgetS u0 u1).1).Next), .int .i64 (((pgetS u0 u1).1).Block), .int .i64 (((pgetS u0 u1).1).Left)] 71, .own (tyInt .u8) 5 ao31 cap32 ((pgetS u0 u1).2.1), .own (tyInt .u8) 5 ao34 cap35 ((pgetS u0 u1).2.2.1), .row b10 [.int .i64 u0.Want, .slice ao1 u0.Data.length cap2, .int .i64 u0.Next, .int .i64 u0.Block, .int .i64 u0.Left] 71] Z37 wd624 := hM625.rowOwn (T := (tyInt .u8)) (xs := ([50, 0, 0] : List Int)) 0 rfl (by decide) (by show 3 ≤ lim; decide) ((RepAll.one (T := (tyInt .u8)) (x := 50) rfl).append ((RepAll.one (T := (tyInt .u8)) (x := 0) rfl).append (RepAll.one (T := (tyInt .u8)) (x := 0) rfl))); clear hM625
          obtain ⟨Z629, hle630, hM631, hs632⟩ := hM628.freeze 0 rfl
          replace hs3 := hs3.mono hle630
          replace hs6 := hs6.mono hle630
          replace hs30 := hs30.mono hle630
          replace hle264 := hle264.mono hle630
          replace hP315 := hP315.mono hle630
          replace hP500 := hP500.mono hle630
          replace hP538 := hP538.mono hle630
          replace hP566 := hP566.mono hle630
          replace hle0 := Fz.le.trans hle0 hle630
          have hM633 : Mem w.heap.size [] w Z [.row b132 [.int .u8 48, .int .u8 (w8 u0.Block), .int .u8 0] 5, .row b111 [.int .i64 0, .slice none 0 0, .int .i64 0, .int .i64 u0.Block, .int .i64 0] 71, .row b53 [.int .i64 (((pgetS u0 u1).1).Want), .slice ao28 (((pgetS u0 u1).1).Data).length cap29, .int .i64 (((pgetS u0 u1).1).Next), .int .i64 (((pgetS u0 u1).1).Block), .int .i64 (((pgetS u0 u1).1).Left)] 71, .own (tyInt .u8) 5 ao31 cap32 ((pgetS u0 u1).2.1), .own (tyInt .u8) 5 ao34 cap35 ((pgetS u0 u1).2.2.1), .row b10 [.int .i64 u0.Want, .slice ao1 u0.Data.length cap2, .int .i64 u0.Next, .int .i64 u0.Block, .int .i64 u0.Left] 71] Z629 wd624 := hM631; clear hM631
          exact hJ146 (rcheckg u0) ([50, 0, 0] : List Int) [] (⟨0, [], 0, u0.Block, 0⟩ : Getter) (some ⟨b621, 0, none⟩) 3 none 0 none 0 Z629 ⟨hp619, hs632, (SlR.nil _ _), (SlR.nil _ _), hle264⟩ _ _ ((hF627.region (by kernel_rfl) (by kernel_rfl)).anyβ _ (by kernel_rfl)) (hM633.keep (List.Sublist.cons _ (List.Sublist.cons_cons _ (List.Sublist.cons_cons _ (List.Sublist.cons_cons _ (List.Sublist.cons_cons _ (List.Sublist.cons_cons _ (List.Sublist.slnil))))))))
         · -- no
          have hp634 := hp609.2 hb618; clear hp609
          have hF635 : Fr 229 [] [⟨1, [], .slice ao4 u1.length cap5⟩, ⟨2, [], .pointer (some ⟨b10, 0, none⟩)⟩, ⟨5, [], .pointer (some ⟨b53, 0, none⟩)⟩, ⟨6, [], .slice ao31 ((pgetS u0 u1).2.1).length cap32⟩, ⟨7, [], .slice ao34 ((pgetS u0 u1).2.2.1).length cap35⟩, ⟨8, [], .int .i64 ((pgetS u0 u1).2.2.2.1)⟩, ⟨9, [], .int .i64 (rcheckg u0)⟩, ⟨10, [], .pointer (some ⟨b111, 0, none⟩)⟩, ⟨12, [], .slice none 0 0⟩, ⟨13, [], .slice (some ⟨b132, 0, none⟩) 3 3⟩, ⟨14, [], .int .i64 (w64 ((w64 ((w64 (w8 (q536 - 16))) * 256)) + (w64 q564)))⟩] a616 := hF617.region (by kernel_rfl) (by kernel_rfl); clear hF617
          have hcd2_0 := hp634.1; have hp658 := hp634.2; clear hp634
          refine wp_seq (any_invE mixed [[], [], [1], [], [3], [], [5], [0, 2, 4, 6], [0, 1, 2, 3, 4, 5, 6, 7]] 9 (fun S a w1 => ∃ (ao640 : Option Addr) (cap641 : Nat) (ud97 : Value) (ud98 : Value) (ud99 : Value) (ud100 : Value) (ud101 : Value) (ud102 : Value) (ud103 : Value) (ud104 : Value) (rh0 : Res) (rh1 : Res) (rh2 : Res) (rh3 : Res) (rh4 : Res) (rh5 : Res), Fz.le Z37 Z37 ∧ Fr 229 [] [⟨1, [], .slice ao4 u1.length cap5⟩, ⟨2, [], .pointer (some ⟨b10, 0, none⟩)⟩, ⟨5, [], .pointer (some ⟨b53, 0, none⟩)⟩, ⟨6, [], .slice ao31 ((pgetS u0 u1).2.1).length cap32⟩, ⟨7, [], .slice ao34 ((pgetS u0 u1).2.2.1).length cap35⟩, ⟨8, [], .int .i64 ((pgetS u0 u1).2.2.2.1)⟩, ⟨9, [], .int .i64 (rcheckg u0)⟩, ⟨10, [], .pointer (some ⟨b111, 0, none⟩)⟩, ⟨12, [], .slice none 0 0⟩, ⟨13, [], .slice (some ⟨b132, 0, none⟩) 3 3⟩, ⟨14, [], .int .i64 (w64 ((w64 ((w64 (w8 (q536 - 16))) * 256)) + (w64 q564)))⟩, ⟨97, [], ud97⟩, ⟨98, [], ud98⟩, ⟨99, [], ud99⟩, ⟨100, [], ud100⟩, ⟨101, [], ud101⟩, ⟨102, [], ud102⟩, ⟨103, [], ud103⟩, ⟨104, [], ud104⟩] a ∧ Mem w.heap.size [] w Z [rh0, rh1, rh2, rh3, rh4, rh5] Z37 w1 ∧ (S 0 = true → ud97 = .int .i64 (w64 ((w64 ((w64 (w8 (q536 - 16))) * 256)) + (w64 q564)))) ∧ (S 1 = true → ud98 = .slice ao4 u1.length cap5) ∧ (S 2 = true → ud99 = .slice ao640 (u1.drop (2 : Int).toNat).length cap641) ∧ (S 3 = true → ud100 = .pointer (some ⟨b10, 3, none⟩)) ∧ (S 4 = true → ud101 = .int .i64 u0.Block) ∧ (S 5 = true → ud102 = .pointer (some ⟨b10, 3, none⟩)) ∧ (S 6 = true → ud103 = .int .i64 u0.Block) ∧ (S 7 = true → ud104 = .agg #[.int .i64 (w64 ((w64 ((w64 (w8 (q536 - 16))) * 256)) + (w64 q564))), .slice ao640 (u1.drop (2 : Int).toNat).length cap641, .int .i64 1, .int .i64 u0.Block, .int .i64 u0.Block]) ∧ (rh0 = .row b132 [.int .u8 48, .int .u8 (w8 u0.Block), .int .u8 0] 5) ∧ (S 8 = false → rh1 = .row b111 [.int .i64 0, .slice none 0 0, .int .i64 0, .int .i64 u0.Block, .int .i64 0] 71) ∧ (S 8 = true → rh1 = .row b111 [.int .i64 (w64 ((w64 ((w64 (w8 (q536 - 16))) * 256)) + (w64 q564))), .slice ao640 (u1.drop (2 : Int).toNat).length cap641, .int .i64 1, .int .i64 u0.Block, .int .i64 u0.Block] 71) ∧ (rh2 = .row b53 [.int .i64 (((pgetS u0 u1).1).Want), .slice ao28 (((pgetS u0 u1).1).Data).length cap29, .int .i64 (((pgetS u0 u1).1).Next), .int .i64 (((pgetS u0 u1).1).Block), .int .i64 (((pgetS u0 u1).1).Left)] 71) ∧ (rh3 = .own (tyInt .u8) 5 ao31 cap32 ((pgetS u0 u1).2.1)) ∧ (rh4 = .own (tyInt .u8) 5 ao34 cap35 ((pgetS u0 u1).2.2.1)) ∧ (rh5 = .row b10 [.int .i64 u0.Want, .slice ao1 u0.Data.length cap2, .int .i64 u0.Next, .int .i64 u0.Block, .int .i64 u0.Left] 71) ∧ (S 2 = true → SlR (tyInt .u8) Z37 ao640 cap641 (u1.drop (2 : Int).toNat))) ?h0 ?hs ?hE)
          case h0 =>
           have hF660 := hF635.any 97
           have hF661 := hF660.any 98
           have hF662 := hF661.any 99
           have hF663 := hF662.any 100
           have hF664 := hF663.any 101
           have hF665 := hF664.any 102
           have hF666 := hF665.any 103
           have hF667 := hF666.any 104
           have hM668 := (hM584.perm (List.Perm.refl _)).drew
           exact ⟨none, 0, a616.tmps.getD 97 undef, a616.tmps.getD 98 undef, a616.tmps.getD 99 undef, a616.tmps.getD 100 undef, a616.tmps.getD 101 undef, a616.tmps.getD 102 undef, a616.tmps.getD 103 undef, a616.tmps.getD 104 undef, .row b132 [.int .u8 48, .int .u8 (w8 u0.Block), .int .u8 0] 5, .row b111 [.int .i64 0, .slice none 0 0, .int .i64 0, .int .i64 u0.Block, .int .i64 0] 71, .row b53 [.int .i64 (((pgetS u0 u1).1).Want), .slice ao28 (((pgetS u0 u1).1).Data).length cap29, .int .i64 (((pgetS u0 u1).1).Next), .int .i64 (((pgetS u0 u1).1).Block), .int .i64 (((pgetS u0 u1).1).Left)] 71, .own (tyInt .u8) 5 ao31 cap32 ((pgetS u0 u1).2.1), .own (tyInt .u8) 5 ao34 cap35 ((pgetS u0 u1).2.2.1), .row b10 [.int .i64 u0.Want, .slice ao1 u0.Data.length cap2, .int .i64 u0.Next, .int .i64 u0.Block, .int .i64 u0.Left] 71, Fz.le.refl _, hF667.region (by kernel_rfl) (by kernel_rfl), hM668, ff, ff, ff, ff, ff, ff, ff, ff, rfl, kf, ff, rfl, rfl, rfl, rfl, ff⟩
          case hs =>
           intro S hcl i o hil hi hSi hpre a w1 hI; refine hid ?_; intro G hG; obtain ⟨ao640, hI⟩ := hI; obtain ⟨cap641, hI⟩ := hI; obtain ⟨ud97, hI⟩ := hI; obtain ⟨ud98, hI⟩ := hI; obtain ⟨ud99, hI⟩ := hI; obtain ⟨ud100, hI⟩ := hI; obtain ⟨ud101, hI⟩ := hI; obtain ⟨ud102, hI⟩ := hI; obtain ⟨ud103, hI⟩ := hI; obtain ⟨ud104, hI⟩ := hI; obtain ⟨rh0, hI⟩ := hI; obtain ⟨rh1, hI⟩ := hI; obtain ⟨rh2, hI⟩ := hI; obtain ⟨rh3, hI⟩ := hI; obtain ⟨rh4, hI⟩ := hI; obtain ⟨rh5, hI⟩ := hI; obtain ⟨hle659, hI⟩ := hI; obtain ⟨hFx, hI⟩ := hI; obtain ⟨hMx, hI⟩ := hI; obtain ⟨cu97, hI⟩ := hI; obtain ⟨cu98, hI⟩ := hI; obtain ⟨cu99, hI⟩ := hI; obtain ⟨cu100, hI⟩ := hI; obtain ⟨cu101, hI⟩ := hI; obtain ⟨cu102, hI⟩ := hI; obtain ⟨cu103, hI⟩ := hI; obtain ⟨cu104, hI⟩ := hI; obtain ⟨cr0_0, hI⟩ := hI; obtain ⟨cr1_0, hI⟩ := hI; obtain ⟨cr1_1, hI⟩ := hI; obtain ⟨cr2_0, hI⟩ := hI; obtain ⟨cr3_0, hI⟩ := hI; obtain ⟨cr4_0, hI⟩ := hI; obtain ⟨cr5_0, hI⟩ := hI; have cf0 := hI; clear hI
           have hcase : i = 0 ∨ i = 1 ∨ i = 2 ∨ i = 3 ∨ i = 4 ∨ i = 5 ∨ i = 6 ∨ i = 7 ∨ i = 8 := by clear hi; omega
           rcases hcase with rfl | rfl | rfl | rfl | rfl | rfl | rfl | rfl | rfl
           · -- 0: move
            obtain rfl := Option.some.inj hi
            have hx0 := hSi
            have hx7 := negF hcl 7 0 (by kernel_rfl) hx0
            have hx8 := negF hcl 8 0 (by kernel_rfl) hx0
            obtain rfl := cr0_0
            obtain rfl := cr1_0 hx8
            obtain rfl := cr2_0
            obtain rfl := cr3_0
            obtain rfl := cr4_0
            obtain rfl := cr5_0
            refine hG (any_step ?_); clear hG G; intro A J hJ
            have hle0 := Fz.le.trans hle0 hle659
            have hs669 := hs3.mono hle659
            have hs670 := hs6.mono hle659
            have hs671 := hs30.mono hle659
            have hs672 := hle264.mono hle659
            have hs673 := hP315.mono hle659
            have hs674 := hP500.mono hle659
            have hs675 := hP538.mono hle659
            have hs676 := hP566.mono hle659
            refine s1 hFx 97 (.int .i64 (w64 ((w64 ((w64 (w8 (q536 - 16))) * 256)) + (w64 q564)))) ?_; intro a677 hF678; clear hFx
            refine nl (qnI (hJ _ _ ?_)); clear hJ J
            exact ⟨ao640, cap641, .int .i64 (w64 ((w64 ((w64 (w8 (q536 - 16))) * 256)) + (w64 q564))), ud98, ud99, ud100, ud101, ud102, ud103, ud104, .row b132 [.int .u8 48, .int .u8 (w8 u0.Block), .int .u8 0] 5, .row b111 [.int .i64 0, .slice none 0 0, .int .i64 0, .int .i64 u0.Block, .int .i64 0] 71, .row b53 [.int .i64 (((pgetS u0 u1).1).Want), .slice ao28 (((pgetS u0 u1).1).Data).length cap29, .int .i64 (((pgetS u0 u1).1).Next), .int .i64 (((pgetS u0 u1).1).Block), .int .i64 (((pgetS u0 u1).1).Left)] 71, .own (tyInt .u8) 5 ao31 cap32 ((pgetS u0 u1).2.1), .own (tyInt .u8) 5 ao34 cap35 ((pgetS u0 u1).2.2.1), .row b10 [.int .i64 u0.Want, .slice ao1 u0.Data.length cap2, .int .i64 u0.Next, .int .i64 u0.Block, .int .i64 u0.Left] 71, hle659, hF678.region (by kernel_rfl) (by kernel_rfl), hMx.perm (List.Perm.refl _), kf, cu98, cu99, cu100, cu101, cu102, cu103, (nt hx7), rfl, kf, (nt hx8), rfl, rfl, rfl, rfl, cf0⟩
           · -- 1: move
            obtain rfl := Option.some.inj hi
            have hx1 := hSi
            have hx2 := negF hcl 2 1 (by kernel_rfl) hx1
            have hx7 := negF hcl 7 2 (by kernel_rfl) hx2
            have hx8 := negF hcl 8 1 (by kernel_rfl) hx1
            obtain rfl := cr0_0
            obtain rfl := cr1_0 hx8
            obtain rfl := cr2_0
            obtain rfl := cr3_0
            obtain rfl := cr4_0
            obtain rfl := cr5_0
            refine hG (any_step ?_); clear hG G; intro A J hJ
            have hle0 := Fz.le.trans hle0 hle659
            have hs680 := hs3.mono hle659
            have hs681 := hs6.mono hle659
            have hs682 := hs30.mono hle659
            have hs683 := hle264.mono hle659
            have hs684 := hP315.mono hle659
            have hs685 := hP500.mono hle659
            have hs686 := hP538.mono hle659
            have hs687 := hP566.mono hle659
            refine s1 hFx 98 (.slice ao4 u1.length cap5) ?_; intro a688 hF689; clear hFx
            refine nl (qnI (hJ _ _ ?_)); clear hJ J
            exact ⟨ao640, cap641, ud97, .slice ao4 u1.length cap5, ud99, ud100, ud101, ud102, ud103, ud104, .row b132 [.int .u8 48, .int .u8 (w8 u0.Block), .int .u8 0] 5, .row b111 [.int .i64 0, .slice none 0 0, .int .i64 0, .int .i64 u0.Block, .int .i64 0] 71, .row b53 [.int .i64 (((pgetS u0 u1).1).Want), .slice ao28 (((pgetS u0 u1).1).Data).length cap29, .int .i64 (((pgetS u0 u1).1).Next), .int .i64 (((pgetS u0 u1).1).Block), .int .i64 (((pgetS u0 u1).1).Left)] 71, .own (tyInt .u8) 5 ao31 cap32 ((pgetS u0 u1).2.1), .own (tyInt .u8) 5 ao34 cap35 ((pgetS u0 u1).2.2.1), .row b10 [.int .i64 u0.Want, .slice ao1 u0.Data.length cap2, .int .i64 u0.Next, .int .i64 u0.Block, .int .i64 u0.Left] 71, hle659, hF689.region (by kernel_rfl) (by kernel_rfl), hMx.perm (List.Perm.refl _), cu97, kf, (nt hx2), cu100, cu101, cu102, cu103, (nt hx7), rfl, kf, (nt hx8), rfl, rfl, rfl, rfl, (nt hx2)⟩
           · -- 2: slice
            obtain rfl := Option.some.inj hi
            have hx1 := hpre 1 (by kernel_rfl)
            have hx2 := hSi
            have hx7 := negF hcl 7 2 (by kernel_rfl) hx2
            have hx8 := negF hcl 8 2 (by kernel_rfl) hx2
            obtain rfl := cu98 hx1
            obtain rfl := cr0_0
            obtain rfl := cr1_0 hx8
            obtain rfl := cr2_0
            obtain rfl := cr3_0
            obtain rfl := cr4_0
            obtain rfl := cr5_0
            refine hG (any_step ?_); clear hG G; intro A J hJ
            have hle0 := Fz.le.trans hle0 hle659
            have hs691 := hs3.mono hle659
            have hs692 := hs6.mono hle659
            have hs693 := hs30.mono hle659
            have hs694 := hle264.mono hle659
            have hs695 := hP315.mono hle659
            have hs696 := hP500.mono hle659
            have hs697 := hP538.mono hle659
            have hs698 := hP566.mono hle659
            refine slL hFx (T := (tyInt .u8)) (xs := u1) hs692 (2 : Int) hcd2_0 (k := .i64) (e := 5) (bytes := 1) (nog rfl _) rfl (by kernel_rfl) rfl (by kernel_rfl) (by kernel_rfl) (by kernel_rfl) ?_; intro ao699 cap700 a703 hn701 hs702 hF704; clear hFx
            refine nl (qnI (hJ _ _ ?_)); clear hJ J
            exact ⟨ao699, cap700, ud97, .slice ao4 u1.length cap5, .slice ao699 (u1.drop (2 : Int).toNat).length cap700, ud100, ud101, ud102, ud103, ud104, .row b132 [.int .u8 48, .int .u8 (w8 u0.Block), .int .u8 0] 5, .row b111 [.int .i64 0, .slice none 0 0, .int .i64 0, .int .i64 u0.Block, .int .i64 0] 71, .row b53 [.int .i64 (((pgetS u0 u1).1).Want), .slice ao28 (((pgetS u0 u1).1).Data).length cap29, .int .i64 (((pgetS u0 u1).1).Next), .int .i64 (((pgetS u0 u1).1).Block), .int .i64 (((pgetS u0 u1).1).Left)] 71, .own (tyInt .u8) 5 ao31 cap32 ((pgetS u0 u1).2.1), .own (tyInt .u8) 5 ao34 cap35 ((pgetS u0 u1).2.2.1), .row b10 [.int .i64 u0.Want, .slice ao1 u0.Data.length cap2, .int .i64 u0.Next, .int .i64 u0.Block, .int .i64 u0.Left] 71, hle659, hF704.region (by kernel_rfl) (by kernel_rfl), hMx.perm (List.Perm.refl _), cu97, kf, kf, cu100, cu101, cu102, cu103, (nt hx7), rfl, kf, (nt hx8), rfl, rfl, rfl, rfl, (fun _ => hs702)⟩
           · -- 3: fieldAddr
            obtain rfl := Option.some.inj hi
            have hx3 := hSi
            have hx4 := negF hcl 4 3 (by kernel_rfl) hx3
            have hx7 := negF hcl 7 4 (by kernel_rfl) hx4
            have hx8 := negF hcl 8 3 (by kernel_rfl) hx3
            obtain rfl := cr0_0
            obtain rfl := cr1_0 hx8
            obtain rfl := cr2_0
            obtain rfl := cr3_0
            obtain rfl := cr4_0
            obtain rfl := cr5_0
            refine hG (any_step ?_); clear hG G; intro A J hJ
            have hle0 := Fz.le.trans hle0 hle659
            have hs706 := hs3.mono hle659
            have hs707 := hs6.mono hle659
            have hs708 := hs30.mono hle659
            have hs709 := hle264.mono hle659
            have hs710 := hP315.mono hle659
            have hs711 := hP500.mono hle659
            have hs712 := hP538.mono hle659
            have hs713 := hP566.mono hle659
            refine s1 hFx 100 (.pointer (some ⟨b10, 3, none⟩)) ?_; intro a714 hF715; clear hFx
            refine nl (qnI (hJ _ _ ?_)); clear hJ J
            exact ⟨ao640, cap641, ud97, ud98, ud99, .pointer (some ⟨b10, 3, none⟩), ud101, ud102, ud103, ud104, .row b132 [.int .u8 48, .int .u8 (w8 u0.Block), .int .u8 0] 5, .row b111 [.int .i64 0, .slice none 0 0, .int .i64 0, .int .i64 u0.Block, .int .i64 0] 71, .row b53 [.int .i64 (((pgetS u0 u1).1).Want), .slice ao28 (((pgetS u0 u1).1).Data).length cap29, .int .i64 (((pgetS u0 u1).1).Next), .int .i64 (((pgetS u0 u1).1).Block), .int .i64 (((pgetS u0 u1).1).Left)] 71, .own (tyInt .u8) 5 ao31 cap32 ((pgetS u0 u1).2.1), .own (tyInt .u8) 5 ao34 cap35 ((pgetS u0 u1).2.2.1), .row b10 [.int .i64 u0.Want, .slice ao1 u0.Data.length cap2, .int .i64 u0.Next, .int .i64 u0.Block, .int .i64 u0.Left] 71, hle659, hF715.region (by kernel_rfl) (by kernel_rfl), hMx.perm (List.Perm.refl _), cu97, cu98, cu99, kf, (nt hx4), cu102, cu103, (nt hx7), rfl, kf, (nt hx8), rfl, rfl, rfl, rfl, cf0⟩
           · -- 4: load
            obtain rfl := Option.some.inj hi
            have hx3 := hpre 3 (by kernel_rfl)
            have hx4 := hSi
            have hx7 := negF hcl 7 4 (by kernel_rfl) hx4
            have hx8 := negF hcl 8 4 (by kernel_rfl) hx4
            obtain rfl := cu100 hx3
            obtain rfl := cr0_0
            obtain rfl := cr1_0 hx8
            obtain rfl := cr2_0
            obtain rfl := cr3_0
            obtain rfl := cr4_0
            obtain rfl := cr5_0
            refine hG (any_step ?_); clear hG G; intro A J hJ
            have hle0 := Fz.le.trans hle0 hle659
            have hs717 := hs3.mono hle659
            have hs718 := hs6.mono hle659
            have hs719 := hs30.mono hle659
            have hs720 := hle264.mono hle659
            have hs721 := hP315.mono hle659
            have hs722 := hP500.mono hle659
            have hs723 := hP538.mono hle659
            have hs724 := hP566.mono hle659
            refine l1 hFx hMx 101 5 3 (.int .i64 u0.Block) rfl rfl ?_; intro a725 hF726; clear hFx
            refine nl (qnI (hJ _ _ ?_)); clear hJ J
            exact ⟨ao640, cap641, ud97, ud98, ud99, .pointer (some ⟨b10, 3, none⟩), .int .i64 u0.Block, ud102, ud103, ud104, .row b132 [.int .u8 48, .int .u8 (w8 u0.Block), .int .u8 0] 5, .row b111 [.int .i64 0, .slice none 0 0, .int .i64 0, .int .i64 u0.Block, .int .i64 0] 71, .row b53 [.int .i64 (((pgetS u0 u1).1).Want), .slice ao28 (((pgetS u0 u1).1).Data).length cap29, .int .i64 (((pgetS u0 u1).1).Next), .int .i64 (((pgetS u0 u1).1).Block), .int .i64 (((pgetS u0 u1).1).Left)] 71, .own (tyInt .u8) 5 ao31 cap32 ((pgetS u0 u1).2.1), .own (tyInt .u8) 5 ao34 cap35 ((pgetS u0 u1).2.2.1), .row b10 [.int .i64 u0.Want, .slice ao1 u0.Data.length cap2, .int .i64 u0.Next, .int .i64 u0.Block, .int .i64 u0.Left] 71, hle659, hF726.region (by kernel_rfl) (by kernel_rfl), hMx.perm (List.Perm.refl _), cu97, cu98, cu99, kf, kf, cu102, cu103, (nt hx7), rfl, kf, (nt hx8), rfl, rfl, rfl, rfl, cf0⟩
           · -- 5: fieldAddr
            obtain rfl := Option.some.inj hi
            have hx5 := hSi
            have hx6 := negF hcl 6 5 (by kernel_rfl) hx5
            have hx7 := negF hcl 7 6 (by kernel_rfl) hx6
            have hx8 := negF hcl 8 5 (by kernel_rfl) hx5
            obtain rfl := cr0_0
            obtain rfl := cr1_0 hx8
            obtain rfl := cr2_0
            obtain rfl := cr3_0
            obtain rfl := cr4_0
            obtain rfl := cr5_0
            refine hG (any_step ?_); clear hG G; intro A J hJ
            have hle0 := Fz.le.trans hle0 hle659
            have hs728 := hs3.mono hle659
            have hs729 := hs6.mono hle659
            have hs730 := hs30.mono hle659
            have hs731 := hle264.mono hle659
            have hs732 := hP315.mono hle659
            have hs733 := hP500.mono hle659
            have hs734 := hP538.mono hle659
            have hs735 := hP566.mono hle659
            refine s1 hFx 102 (.pointer (some ⟨b10, 3, none⟩)) ?_; intro a736 hF737; clear hFx
            refine nl (qnI (hJ _ _ ?_)); clear hJ J
            exact ⟨ao640, cap641, ud97, ud98, ud99, ud100, ud101, .pointer (some ⟨b10, 3, none⟩), ud103, ud104, .row b132 [.int .u8 48, .int .u8 (w8 u0.Block), .int .u8 0] 5, .row b111 [.int .i64 0, .slice none 0 0, .int .i64 0, .int .i64 u0.Block, .int .i64 0] 71, .row b53 [.int .i64 (((pgetS u0 u1).1).Want), .slice ao28 (((pgetS u0 u1).1).Data).length cap29, .int .i64 (((pgetS u0 u1).1).Next), .int .i64 (((pgetS u0 u1).1).Block), .int .i64 (((pgetS u0 u1).1).Left)] 71, .own (tyInt .u8) 5 ao31 cap32 ((pgetS u0 u1).2.1), .own (tyInt .u8) 5 ao34 cap35 ((pgetS u0 u1).2.2.1), .row b10 [.int .i64 u0.Want, .slice ao1 u0.Data.length cap2, .int .i64 u0.Next, .int .i64 u0.Block, .int .i64 u0.Left] 71, hle659, hF737.region (by kernel_rfl) (by kernel_rfl), hMx.perm (List.Perm.refl _), cu97, cu98, cu99, cu100, cu101, kf, (nt hx6), (nt hx7), rfl, kf, (nt hx8), rfl, rfl, rfl, rfl, cf0⟩
           · -- 6: load
            obtain rfl := Option.some.inj hi
            have hx5 := hpre 5 (by kernel_rfl)
            have hx6 := hSi
            have hx7 := negF hcl 7 6 (by kernel_rfl) hx6
            have hx8 := negF hcl 8 6 (by kernel_rfl) hx6
            obtain rfl := cu102 hx5
            obtain rfl := cr0_0
            obtain rfl := cr1_0 hx8
            obtain rfl := cr2_0
            obtain rfl := cr3_0
            obtain rfl := cr4_0
            obtain rfl := cr5_0
            refine hG (any_step ?_); clear hG G; intro A J hJ
            have hle0 := Fz.le.trans hle0 hle659
            have hs739 := hs3.mono hle659
            have hs740 := hs6.mono hle659
            have hs741 := hs30.mono hle659
            have hs742 := hle264.mono hle659
            have hs743 := hP315.mono hle659
            have hs744 := hP500.mono hle659
            have hs745 := hP538.mono hle659
            have hs746 := hP566.mono hle659
            refine l1 hFx hMx 103 5 3 (.int .i64 u0.Block) rfl rfl ?_; intro a747 hF748; clear hFx
            refine nl (qnI (hJ _ _ ?_)); clear hJ J
            exact ⟨ao640, cap641, ud97, ud98, ud99, ud100, ud101, .pointer (some ⟨b10, 3, none⟩), .int .i64 u0.Block, ud104, .row b132 [.int .u8 48, .int .u8 (w8 u0.Block), .int .u8 0] 5, .row b111 [.int .i64 0, .slice none 0 0, .int .i64 0, .int .i64 u0.Block, .int .i64 0] 71, .row b53 [.int .i64 (((pgetS u0 u1).1).Want), .slice ao28 (((pgetS u0 u1).1).Data).length cap29, .int .i64 (((pgetS u0 u1).1).Next), .int .i64 (((pgetS u0 u1).1).Block), .int .i64 (((pgetS u0 u1).1).Left)] 71, .own (tyInt .u8) 5 ao31 cap32 ((pgetS u0 u1).2.1), .own (tyInt .u8) 5 ao34 cap35 ((pgetS u0 u1).2.2.1), .row b10 [.int .i64 u0.Want, .slice ao1 u0.Data.length cap2, .int .i64 u0.Next, .int .i64 u0.Block, .int .i64 u0.Left] 71, hle659, hF748.region (by kernel_rfl) (by kernel_rfl), hMx.perm (List.Perm.refl _), cu97, cu98, cu99, cu100, cu101, kf, kf, (nt hx7), rfl, kf, (nt hx8), rfl, rfl, rfl, rfl, cf0⟩
           · -- 7: build
            obtain rfl := Option.some.inj hi
            have hx6 := hpre 6 (by kernel_rfl)
            have hx4 := hpre 4 (by kernel_rfl)
            have hx2 := hpre 2 (by kernel_rfl)
            have hx0 := hpre 0 (by kernel_rfl)
            have hx5 := hcl 6 5 (by kernel_rfl) hx6
            have hx3 := hcl 4 3 (by kernel_rfl) hx4
            have hx1 := hcl 2 1 (by kernel_rfl) hx2
            have hx7 := hSi
            have hx8 := negF hcl 8 7 (by kernel_rfl) hx7
            obtain rfl := cu97 hx0
            obtain rfl := cu98 hx1
            obtain rfl := cu99 hx2
            obtain rfl := cu100 hx3
            obtain rfl := cu101 hx4
            obtain rfl := cu102 hx5
            obtain rfl := cu103 hx6
            obtain rfl := cr0_0
            obtain rfl := cr1_0 hx8
            obtain rfl := cr2_0
            obtain rfl := cr3_0
            obtain rfl := cr4_0
            obtain rfl := cr5_0
            refine hG (any_step ?_); clear hG G; intro A J hJ
            have hle0 := Fz.le.trans hle0 hle659
            have hs750 := hs3.mono hle659
            have hs751 := hs6.mono hle659
            have hs752 := hs30.mono hle659
            have hs753 := hle264.mono hle659
            have hs754 := hP315.mono hle659
            have hs755 := hP500.mono hle659
            have hs756 := hP538.mono hle659
            have hs757 := hP566.mono hle659
            have hs758 := cf0 hx2
            refine s1 hFx 104 (.agg #[.int .i64 (w64 ((w64 ((w64 (w8 (q536 - 16))) * 256)) + (w64 q564))), .slice ao640 (u1.drop (2 : Int).toNat).length cap641, .int .i64 1, .int .i64 u0.Block, .int .i64 u0.Block]) ?_; intro a759 hF760; clear hFx
            refine nl (qnI (hJ _ _ ?_)); clear hJ J
            exact ⟨ao640, cap641, .int .i64 (w64 ((w64 ((w64 (w8 (q536 - 16))) * 256)) + (w64 q564))), .slice ao4 u1.length cap5, .slice ao640 (u1.drop (2 : Int).toNat).length cap641, .pointer (some ⟨b10, 3, none⟩), .int .i64 u0.Block, .pointer (some ⟨b10, 3, none⟩), .int .i64 u0.Block, .agg #[.int .i64 (w64 ((w64 ((w64 (w8 (q536 - 16))) * 256)) + (w64 q564))), .slice ao640 (u1.drop (2 : Int).toNat).length cap641, .int .i64 1, .int .i64 u0.Block, .int .i64 u0.Block], .row b132 [.int .u8 48, .int .u8 (w8 u0.Block), .int .u8 0] 5, .row b111 [.int .i64 0, .slice none 0 0, .int .i64 0, .int .i64 u0.Block, .int .i64 0] 71, .row b53 [.int .i64 (((pgetS u0 u1).1).Want), .slice ao28 (((pgetS u0 u1).1).Data).length cap29, .int .i64 (((pgetS u0 u1).1).Next), .int .i64 (((pgetS u0 u1).1).Block), .int .i64 (((pgetS u0 u1).1).Left)] 71, .own (tyInt .u8) 5 ao31 cap32 ((pgetS u0 u1).2.1), .own (tyInt .u8) 5 ao34 cap35 ((pgetS u0 u1).2.2.1), .row b10 [.int .i64 u0.Want, .slice ao1 u0.Data.length cap2, .int .i64 u0.Next, .int .i64 u0.Block, .int .i64 u0.Left] 71, hle659, hF760.region (by kernel_rfl) (by kernel_rfl), hMx.perm (List.Perm.refl _), kf, kf, kf, kf, kf, kf, kf, kf, rfl, kf, (nt hx8), rfl, rfl, rfl, rfl, (fun _ => hs758)⟩
           · -- 8: store
            obtain rfl := Option.some.inj hi
            have hx7 := hpre 7 (by kernel_rfl)
            have hx6 := hpre 6 (by kernel_rfl)
            have hx5 := hpre 5 (by kernel_rfl)
            have hx4 := hpre 4 (by kernel_rfl)
            have hx3 := hpre 3 (by kernel_rfl)
            have hx2 := hpre 2 (by kernel_rfl)
            have hx1 := hpre 1 (by kernel_rfl)
            have hx0 := hpre 0 (by kernel_rfl)
            have hx8 := hSi
            obtain rfl := cu97 hx0
            obtain rfl := cu98 hx1
            obtain rfl := cu99 hx2
            obtain rfl := cu100 hx3
            obtain rfl := cu101 hx4
            obtain rfl := cu102 hx5
            obtain rfl := cu103 hx6
            obtain rfl := cu104 hx7
            obtain rfl := cr0_0
            obtain rfl := cr1_0 hx8
            obtain rfl := cr2_0
            obtain rfl := cr3_0
            obtain rfl := cr4_0
            obtain rfl := cr5_0
            refine hG (any_step ?_); clear hG G; intro A J hJ
            have hle0 := Fz.le.trans hle0 hle659
            have hs762 := hs3.mono hle659
            have hs763 := hs6.mono hle659
            have hs764 := hs30.mono hle659
            have hs765 := hle264.mono hle659
            have hs766 := hP315.mono hle659
            have hs767 := hP500.mono hle659
            have hs768 := hP538.mono hle659
            have hs769 := hP566.mono hle659
            have hs770 := cf0 hx2
            refine sr hFx hMx 1 [.int .i64 (w64 ((w64 ((w64 (w8 (q536 - 16))) * 256)) + (w64 q564))), .slice ao640 (u1.drop (2 : Int).toNat).length cap641, .int .i64 1, .int .i64 u0.Block, .int .i64 u0.Block] (b := b111) (off := 0) (cs := [.int .i64 0, .slice none 0 0, .int .i64 0, .int .i64 u0.Block, .int .i64 0]) (ty := 71) (u := .agg #[.int .i64 (w64 ((w64 ((w64 (w8 (q536 - 16))) * 256)) + (w64 q564))), .slice ao640 (u1.drop (2 : Int).toNat).length cap641, .int .i64 1, .int .i64 u0.Block, .int .i64 u0.Block]) (nog rfl _) rfl rfl (by kernel_rfl) (by kernel_rfl) (by kernel_rfl) (by kernel_rfl) (by kernel_rfl) (by kernel_rfl) (by kernel_rfl) ?_; intro wd771 hM772; clear hMx
            refine nl (qnI (hJ _ _ ?_)); clear hJ J
            exact ⟨ao640, cap641, .int .i64 (w64 ((w64 ((w64 (w8 (q536 - 16))) * 256)) + (w64 q564))), .slice ao4 u1.length cap5, .slice ao640 (u1.drop (2 : Int).toNat).length cap641, .pointer (some ⟨b10, 3, none⟩), .int .i64 u0.Block, .pointer (some ⟨b10, 3, none⟩), .int .i64 u0.Block, .agg #[.int .i64 (w64 ((w64 ((w64 (w8 (q536 - 16))) * 256)) + (w64 q564))), .slice ao640 (u1.drop (2 : Int).toNat).length cap641, .int .i64 1, .int .i64 u0.Block, .int .i64 u0.Block], .row b132 [.int .u8 48, .int .u8 (w8 u0.Block), .int .u8 0] 5, .row b111 [.int .i64 (w64 ((w64 ((w64 (w8 (q536 - 16))) * 256)) + (w64 q564))), .slice ao640 (u1.drop (2 : Int).toNat).length cap641, .int .i64 1, .int .i64 u0.Block, .int .i64 u0.Block] 71, .row b53 [.int .i64 (((pgetS u0 u1).1).Want), .slice ao28 (((pgetS u0 u1).1).Data).length cap29, .int .i64 (((pgetS u0 u1).1).Next), .int .i64 (((pgetS u0 u1).1).Block), .int .i64 (((pgetS u0 u1).1).Left)] 71, .own (tyInt .u8) 5 ao31 cap32 ((pgetS u0 u1).2.1), .own (tyInt .u8) 5 ao34 cap35 ((pgetS u0 u1).2.2.1), .row b10 [.int .i64 u0.Want, .slice ao1 u0.Data.length cap2, .int .i64 u0.Next, .int .i64 u0.Block, .int .i64 u0.Left] 71, hle659, hFx.region (by kernel_rfl) (by kernel_rfl), hM772.perm (List.Perm.refl _), kf, kf, kf, kf, kf, kf, kf, kf, rfl, nu, kf, rfl, rfl, rfl, rfl, (fun _ => hs770)⟩
          case hE =>
           intro S hS a774 wd775 hI; refine hid ?_; intro G hG; obtain ⟨ao640, hI⟩ := hI; obtain ⟨cap641, hI⟩ := hI; obtain ⟨ud97, hI⟩ := hI; obtain ⟨ud98, hI⟩ := hI; obtain ⟨ud99, hI⟩ := hI; obtain ⟨ud100, hI⟩ := hI; obtain ⟨ud101, hI⟩ := hI; obtain ⟨ud102, hI⟩ := hI; obtain ⟨ud103, hI⟩ := hI; obtain ⟨ud104, hI⟩ := hI; obtain ⟨rh0, hI⟩ := hI; obtain ⟨rh1, hI⟩ := hI; obtain ⟨rh2, hI⟩ := hI; obtain ⟨rh3, hI⟩ := hI; obtain ⟨rh4, hI⟩ := hI; obtain ⟨rh5, hI⟩ := hI; obtain ⟨hle659, hI⟩ := hI; obtain ⟨hFx, hI⟩ := hI; obtain ⟨hMx, hI⟩ := hI; obtain ⟨cu97, hI⟩ := hI; obtain ⟨cu98, hI⟩ := hI; obtain ⟨cu99, hI⟩ := hI; obtain ⟨cu100, hI⟩ := hI; obtain ⟨cu101, hI⟩ := hI; obtain ⟨cu102, hI⟩ := hI; obtain ⟨cu103, hI⟩ := hI; obtain ⟨cu104, hI⟩ := hI; obtain ⟨cr0_0, hI⟩ := hI; obtain ⟨cr1_0, hI⟩ := hI; obtain ⟨cr1_1, hI⟩ := hI; obtain ⟨cr2_0, hI⟩ := hI; obtain ⟨cr3_0, hI⟩ := hI; obtain ⟨cr4_0, hI⟩ := hI; obtain ⟨cr5_0, hI⟩ := hI; have cf0 := hI; clear hI; refine hG ?_; clear hG G
           obtain rfl := cu97 (hS 0 (by decide))
           obtain rfl := cu98 (hS 1 (by decide))
           obtain rfl := cu99 (hS 2 (by decide))
           obtain rfl := cu100 (hS 3 (by decide))
           obtain rfl := cu101 (hS 4 (by decide))
           obtain rfl := cu102 (hS 5 (by decide))
           obtain rfl := cu103 (hS 6 (by decide))
           obtain rfl := cu104 (hS 7 (by decide))
           obtain rfl := cr0_0
           obtain rfl := cr1_1 (hS 8 (by decide))
           obtain rfl := cr2_0
           obtain rfl := cr3_0
           obtain rfl := cr4_0
           obtain rfl := cr5_0
           have hle0 := Fz.le.trans hle0 hle659
           have hs776 := hs3.mono hle659
           have hs777 := hs6.mono hle659
           have hs778 := hs30.mono hle659
           have hs779 := hle264.mono hle659
           have hs780 := hP315.mono hle659
           have hs781 := hP500.mono hle659
           have hs782 := hP538.mono hle659
           have hs783 := hP566.mono hle659
           have hs784 := cf0 (hS 2 (by decide))
           refine thn ?_
           have hF785 : Fr 229 [] [⟨5, [], .pointer (some ⟨b53, 0, none⟩)⟩, ⟨6, [], .slice ao31 ((pgetS u0 u1).2.1).length cap32⟩, ⟨7, [], .slice ao34 ((pgetS u0 u1).2.2.1).length cap35⟩, ⟨8, [], .int .i64 ((pgetS u0 u1).2.2.2.1)⟩, ⟨9, [], .int .i64 (rcheckg u0)⟩, ⟨10, [], .pointer (some ⟨b111, 0, none⟩)⟩, ⟨12, [], .slice none 0 0⟩, ⟨13, [], .slice (some ⟨b132, 0, none⟩) 3 3⟩] a774 := hFx.region (by kernel_rfl) (by kernel_rfl); clear hFx
           refine rgH ?_; intro hQ786Q hQ786
           refine s1 hF785 105 (.slice (some ⟨b132, 0, none⟩) 3 3) ?_; intro a787 hF788; clear hF785
           refine s1 hF788 11 (.slice (some ⟨b132, 0, none⟩) 3 3) ?_; intro a789 hF790; clear hF788
           refine nlH (hQ786 _ _ ?_); clear hQ786 hQ786Q
           refine ibn ?_
           refine ibn ?_
           refine rd ?_
           have hM791 : Mem w.heap.size [] w Z [.own (tyInt .u8) 5 (some ⟨b132, 0, none⟩) 3 ([48, w8 u0.Block, 0] : List Int), .row b111 [.int .i64 (w64 ((w64 ((w64 (w8 (q536 - 16))) * 256)) + (w64 q564))), .slice ao640 (u1.drop (2 : Int).toNat).length cap641, .int .i64 1, .int .i64 u0.Block, .int .i64 u0.Block] 71, .row b53 [.int .i64 (((pgetS u0 u1).1).Want), .slice ao28 (((pgetS u0 u1).1).Data).length cap29, .int .i64 (((pgetS u0 u1).1).Next), .int .i64 (((pgetS u0 u1).1).Block), .int .i64 (((pgetS u0 u1).1).Left)] 71, .own (tyInt .u8) 5 ao31 cap32 ((pgetS u0 u1).2.1), .own (tyInt .u8) 5 ao34 cap35 ((pgetS u0 u1).2.2.1), .row b10 [.int .i64 u0.Want, .slice ao1 u0.Data.length cap2, .int .i64 u0.Next, .int .i64 u0.Block, .int .i64 u0.Left] 71] Z37 wd775 := hMx.rowOwn (T := (tyInt .u8)) (xs := ([48, w8 u0.Block, 0] : List Int)) 0 rfl (by decide) (by show 3 ≤ lim; decide) ((RepAll.one (T := (tyInt .u8)) (x := 48) rfl).append ((RepAll.one (T := (tyInt .u8)) (x := w8 u0.Block) rfl).append (RepAll.one (T := (tyInt .u8)) (x := 0) rfl))); clear hMx
           obtain ⟨Z792, hle793, hM794, hs795⟩ := hM791.freeze 0 rfl
           replace hs776 := hs776.mono hle793
           replace hs777 := hs777.mono hle793
           replace hs778 := hs778.mono hle793
           replace hs779 := hs779.mono hle793
           replace hs780 := hs780.mono hle793
           replace hs781 := hs781.mono hle793
           replace hs782 := hs782.mono hle793
           replace hs783 := hs783.mono hle793
           replace hs784 := hs784.mono hle793
           replace hle0 := Fz.le.trans hle0 hle793
           have hM796 : Mem w.heap.size [] w Z [.row b111 [.int .i64 (w64 ((w64 ((w64 (w8 (q536 - 16))) * 256)) + (w64 q564))), .slice ao640 (u1.drop (2 : Int).toNat).length cap641, .int .i64 1, .int .i64 u0.Block, .int .i64 u0.Block] 71, .row b53 [.int .i64 (((pgetS u0 u1).1).Want), .slice ao28 (((pgetS u0 u1).1).Data).length cap29, .int .i64 (((pgetS u0 u1).1).Next), .int .i64 (((pgetS u0 u1).1).Block), .int .i64 (((pgetS u0 u1).1).Left)] 71, .own (tyInt .u8) 5 ao31 cap32 ((pgetS u0 u1).2.1), .own (tyInt .u8) 5 ao34 cap35 ((pgetS u0 u1).2.2.1), .row b10 [.int .i64 u0.Want, .slice ao1 u0.Data.length cap2, .int .i64 u0.Next, .int .i64 u0.Block, .int .i64 u0.Left] 71] Z792 wd775 := hM794; clear hM794
           exact hJ146 (rcheckg u0) ([48, w8 u0.Block, 0] : List Int) [] (⟨w64 ((w64 ((w64 (w8 (q536 - 16))) * 256)) + (w64 q564)), u1.drop (2 : Int).toNat, 1, u0.Block, u0.Block⟩ : Getter) (some ⟨b132, 0, none⟩) 3 none 0 ao640 cap641 Z792 ⟨hp658, hs795, (SlR.nil _ _), hs784, hs779⟩ _ _ ((hF790.region (by kernel_rfl) (by kernel_rfl)).anyβ _ (by kernel_rfl)) (hM796.keep (List.Sublist.cons_cons _ (List.Sublist.cons_cons _ (List.Sublist.cons_cons _ (List.Sublist.cons_cons _ (List.Sublist.cons_cons _ (List.Sublist.slnil)))))))
       · -- no
        have hp797 := hp512.2 hb523; clear hp512
        refine wp_skip ?_
        refine thn ?_
        refine wp_block ?_
        refine sqH ?_; intro hQ798Q hQ798
        refine s1 hF522 107 (.slice ao4 u1.length cap5) ?_; intro a799 hF800; clear hF522
        refine s1 hF800 108 (.int .i64 (u1.length : Int)) ?_; intro a801 hF802; clear hF800
        refine s1 hF802 109 (.bool ((u1.length : Int) != 8)) ?_; intro a803 hF804; clear hF802
        refine s1 hF804 110 (.bool ((u1.length : Int) != 8)) ?_; intro a805 hF806; clear hF804
        have hF807 := hF806.atom (((u1.length : Int) != 8) == false) (by kernel_rfl); clear hF806
        refine gp hF807 111 0 [] ((u1.length : Int) != 8) (.int .i64 0) rfl rfl ?_; intro a808 hF809; clear hF807
        refine gp hF809 112 0 [] ((u1.length : Int) != 8) (.bool true) rfl rfl ?_; intro a810 hF811; clear hF809
        refine st hF811 (.bool (((u1.length : Int) != 8) || true)) (nog rfl _) rfl (by kernel_rfl) (pk_or hF811 (g := []) (m := 0) (b := (u1.length : Int) != 8) (v := true) rfl (by kernel_rfl) (by kernel_rfl) (by kernel_rfl) rfl) ?_; intro a812 hF813; clear hF811
        refine s1 hF813 106 (.bool (((u1.length : Int) != 8) || true)) ?_; intro a814 hF815; clear hF813
        refine nlH (hQ798 _ _ ?_); clear hQ798 hQ798Q
        refine cd hF815 (t := ((u1.length : Int) != 8) || true) (by kernel_rfl) (fun hb816 => ?_) (fun hb816 => ?_)
        · -- yes
         have hp817 := hp797.1 hb816; clear hp797
         have hF818 : Fr 229 [] [⟨5, [], .pointer (some ⟨b53, 0, none⟩)⟩, ⟨6, [], .slice ao31 ((pgetS u0 u1).2.1).length cap32⟩, ⟨7, [], .slice ao34 ((pgetS u0 u1).2.2.1).length cap35⟩, ⟨8, [], .int .i64 ((pgetS u0 u1).2.2.2.1)⟩, ⟨10, [], .pointer (some ⟨b111, 0, none⟩)⟩, ⟨11, [], .slice none 0 0⟩, ⟨12, [], .slice none 0 0⟩] a814 := hF815.region (by kernel_rfl) (by kernel_rfl); clear hF815
         refine rgH ?_; intro hQ819Q hQ819
         refine s1 hF818 9 (.int .i64 4) ?_; intro a820 hF821; clear hF818
         refine nlH (hQ819 _ _ ?_); clear hQ819 hQ819Q
         refine ibn ?_
         refine ibn ?_
         refine rd ?_
         exact hJ146 4 [] [] (⟨0, [], 0, u0.Block, 0⟩ : Getter) none 0 none 0 none 0 Z37 ⟨hp817, (SlR.nil _ _), (SlR.nil _ _), (SlR.nil _ _), hle264⟩ _ _ ((hF821.region (by kernel_rfl) (by kernel_rfl)).anyβ _ (by kernel_rfl)) (hM136.keep (List.Sublist.cons _ (List.Sublist.cons_cons _ (List.Sublist.cons_cons _ (List.Sublist.cons_cons _ (List.Sublist.cons_cons _ (List.Sublist.cons_cons _ (List.Sublist.slnil))))))))
        · -- no
         have hp822 := hp797.2 hb816; clear hp797
         have hF823 : Fr 229 [] [⟨1, [], .slice ao4 u1.length cap5⟩, ⟨2, [], .pointer (some ⟨b10, 0, none⟩)⟩, ⟨5, [], .pointer (some ⟨b53, 0, none⟩)⟩, ⟨6, [], .slice ao31 ((pgetS u0 u1).2.1).length cap32⟩, ⟨7, [], .slice ao34 ((pgetS u0 u1).2.2.1).length cap35⟩, ⟨8, [], .int .i64 ((pgetS u0 u1).2.2.2.1)⟩, ⟨9, [], .int .i64 (rcheckg u0)⟩, ⟨10, [], .pointer (some ⟨b111, 0, none⟩)⟩, ⟨12, [], .slice none 0 0⟩, ⟨13, [], .slice (some ⟨b132, 0, none⟩) 3 3⟩, ⟨14, [], .int .i64 0⟩] a814 := hF815.region (by kernel_rfl) (by kernel_rfl); clear hF815
         refine sqH ?_; intro hQ824Q hQ824
         refine s1 hF823 115 (.int .i64 0) ?_; intro a825 hF826; clear hF823
         refine s1 hF826 116 (.bool false) ?_; intro a827 hF828; clear hF826
         refine s1 hF828 114 (.bool false) ?_; intro a829 hF830; clear hF828
         refine nlH (hQ824 _ _ ?_); clear hQ824 hQ824Q
         refine cdF hF830 (by kernel_rfl) ?_
         have hF831 : Fr 229 [] [⟨1, [], .slice ao4 u1.length cap5⟩, ⟨2, [], .pointer (some ⟨b10, 0, none⟩)⟩, ⟨5, [], .pointer (some ⟨b53, 0, none⟩)⟩, ⟨6, [], .slice ao31 ((pgetS u0 u1).2.1).length cap32⟩, ⟨7, [], .slice ao34 ((pgetS u0 u1).2.2.1).length cap35⟩, ⟨8, [], .int .i64 ((pgetS u0 u1).2.2.2.1)⟩, ⟨9, [], .int .i64 (rcheckg u0)⟩, ⟨10, [], .pointer (some ⟨b111, 0, none⟩)⟩, ⟨12, [], .slice none 0 0⟩, ⟨13, [], .slice (some ⟨b132, 0, none⟩) 3 3⟩, ⟨14, [], .int .i64 0⟩] a829 := hF830.region (by kernel_rfl) (by kernel_rfl); clear hF830
         have hcd2_0 := hp822.1; have hp854 := hp822.2; clear hp822
         refine wp_seq (any_invE mixed [[], [], [1], [], [3], [], [5], [0, 2, 4, 6], [0, 1, 2, 3, 4, 5, 6, 7]] 9 (fun S a w1 => ∃ (ao836 : Option Addr) (cap837 : Nat) (ud97 : Value) (ud98 : Value) (ud99 : Value) (ud100 : Value) (ud101 : Value) (ud102 : Value) (ud103 : Value) (ud104 : Value) (rh0 : Res) (rh1 : Res) (rh2 : Res) (rh3 : Res) (rh4 : Res) (rh5 : Res), Fz.le Z37 Z37 ∧ Fr 229 [] [⟨1, [], .slice ao4 u1.length cap5⟩, ⟨2, [], .pointer (some ⟨b10, 0, none⟩)⟩, ⟨5, [], .pointer (some ⟨b53, 0, none⟩)⟩, ⟨6, [], .slice ao31 ((pgetS u0 u1).2.1).length cap32⟩, ⟨7, [], .slice ao34 ((pgetS u0 u1).2.2.1).length cap35⟩, ⟨8, [], .int .i64 ((pgetS u0 u1).2.2.2.1)⟩, ⟨9, [], .int .i64 (rcheckg u0)⟩, ⟨10, [], .pointer (some ⟨b111, 0, none⟩)⟩, ⟨12, [], .slice none 0 0⟩, ⟨13, [], .slice (some ⟨b132, 0, none⟩) 3 3⟩, ⟨14, [], .int .i64 0⟩, ⟨97, [], ud97⟩, ⟨98, [], ud98⟩, ⟨99, [], ud99⟩, ⟨100, [], ud100⟩, ⟨101, [], ud101⟩, ⟨102, [], ud102⟩, ⟨103, [], ud103⟩, ⟨104, [], ud104⟩] a ∧ Mem w.heap.size [] w Z [rh0, rh1, rh2, rh3, rh4, rh5] Z37 w1 ∧ (S 0 = true → ud97 = .int .i64 0) ∧ (S 1 = true → ud98 = .slice ao4 u1.length cap5) ∧ (S 2 = true → ud99 = .slice ao836 (u1.drop (2 : Int).toNat).length cap837) ∧ (S 3 = true → ud100 = .pointer (some ⟨b10, 3, none⟩)) ∧ (S 4 = true → ud101 = .int .i64 u0.Block) ∧ (S 5 = true → ud102 = .pointer (some ⟨b10, 3, none⟩)) ∧ (S 6 = true → ud103 = .int .i64 u0.Block) ∧ (S 7 = true → ud104 = .agg #[.int .i64 0, .slice ao836 (u1.drop (2 : Int).toNat).length cap837, .int .i64 1, .int .i64 u0.Block, .int .i64 u0.Block]) ∧ (rh0 = .row b132 [.int .u8 48, .int .u8 (w8 u0.Block), .int .u8 0] 5) ∧ (S 8 = false → rh1 = .row b111 [.int .i64 0, .slice none 0 0, .int .i64 0, .int .i64 u0.Block, .int .i64 0] 71) ∧ (S 8 = true → rh1 = .row b111 [.int .i64 0, .slice ao836 (u1.drop (2 : Int).toNat).length cap837, .int .i64 1, .int .i64 u0.Block, .int .i64 u0.Block] 71) ∧ (rh2 = .row b53 [.int .i64 (((pgetS u0 u1).1).Want), .slice ao28 (((pgetS u0 u1).1).Data).length cap29, .int .i64 (((pgetS u0 u1).1).Next), .int .i64 (((pgetS u0 u1).1).Block), .int .i64 (((pgetS u0 u1).1).Left)] 71) ∧ (rh3 = .own (tyInt .u8) 5 ao31 cap32 ((pgetS u0 u1).2.1)) ∧ (rh4 = .own (tyInt .u8) 5 ao34 cap35 ((pgetS u0 u1).2.2.1)) ∧ (rh5 = .row b10 [.int .i64 u0.Want, .slice ao1 u0.Data.length cap2, .int .i64 u0.Next, .int .i64 u0.Block, .int .i64 u0.Left] 71) ∧ (S 2 = true → SlR (tyInt .u8) Z37 ao836 cap837 (u1.drop (2 : Int).toNat))) ?h0 ?hs ?hE)
         case h0 =>
          have hF856 := hF831.any 97
          have hF857 := hF856.any 98
          have hF858 := hF857.any 99
          have hF859 := hF858.any 100
          have hF860 := hF859.any 101
          have hF861 := hF860.any 102
          have hF862 := hF861.any 103
          have hF863 := hF862.any 104
          have hM864 := (hM136.perm (List.Perm.refl _)).drew
          exact ⟨none, 0, a829.tmps.getD 97 undef, a829.tmps.getD 98 undef, a829.tmps.getD 99 undef, a829.tmps.getD 100 undef, a829.tmps.getD 101 undef, a829.tmps.getD 102 undef, a829.tmps.getD 103 undef, a829.tmps.getD 104 undef, .row b132 [.int .u8 48, .int .u8 (w8 u0.Block), .int .u8 0] 5, .row b111 [.int .i64 0, .slice none 0 0, .int .i64 0, .int .i64 u0.Block, .int .i64 0] 71, .row b53 [.int .i64 (((pgetS u0 u1).1).Want), .slice ao28 (((pgetS u0 u1).1).Data).length cap29, .int .i64 (((pgetS u0 u1).1).Next), .int .i64 (((pgetS u0 u1).1).Block), .int .i64 (((pgetS u0 u1).1).Left)] 71, .own (tyInt .u8) 5 ao31 cap32 ((pgetS u0 u1).2.1), .own (tyInt .u8) 5 ao34 cap35 ((pgetS u0 u1).2.2.1), .row b10 [.int .i64 u0.Want, .slice ao1 u0.Data.length cap2, .int .i64 u0.Next, .int .i64 u0.Block, .int .i64 u0.Left] 71, Fz.le.refl _, hF863.region (by kernel_rfl) (by kernel_rfl), hM864, ff, ff, ff, ff, ff, ff, ff, ff, rfl, kf, ff, rfl, rfl, rfl, rfl, ff⟩
         case hs =>
          intro S hcl i o hil hi hSi hpre a w1 hI; refine hid ?_; intro G hG; obtain ⟨ao836, hI⟩ := hI; obtain ⟨cap837, hI⟩ := hI; obtain ⟨ud97, hI⟩ := hI; obtain ⟨ud98, hI⟩ := hI; obtain ⟨ud99, hI⟩ := hI; obtain ⟨ud100, hI⟩ := hI; obtain ⟨ud101, hI⟩ := hI; obtain ⟨ud102, hI⟩ := hI; obtain ⟨ud103, hI⟩ := hI; obtain ⟨ud104, hI⟩ := hI; obtain ⟨rh0, hI⟩ := hI; obtain ⟨rh1, hI⟩ := hI; obtain ⟨rh2, hI⟩ := hI; obtain ⟨rh3, hI⟩ := hI; obtain ⟨rh4, hI⟩ := hI; obtain ⟨rh5, hI⟩ := hI; obtain ⟨hle855, hI⟩ := hI; obtain ⟨hFx, hI⟩ := hI; obtain ⟨hMx, hI⟩ := hI; obtain ⟨cu97, hI⟩ := hI; obtain ⟨cu98, hI⟩ := hI; obtain ⟨cu99, hI⟩ := hI; obtain ⟨cu100, hI⟩ := hI; obtain ⟨cu101, hI⟩ := hI; obtain ⟨cu102, hI⟩ := hI; obtain ⟨cu103, hI⟩ := hI; obtain ⟨cu104, hI⟩ := hI; obtain ⟨cr0_0, hI⟩ := hI; obtain ⟨cr1_0, hI⟩ := hI; obtain ⟨cr1_1, hI⟩ := hI; obtain ⟨cr2_0, hI⟩ := hI; obtain ⟨cr3_0, hI⟩ := hI; obtain ⟨cr4_0, hI⟩ := hI; obtain ⟨cr5_0, hI⟩ := hI; have cf0 := hI; clear hI
          have hcase : i = 0 ∨ i = 1 ∨ i = 2 ∨ i = 3 ∨ i = 4 ∨ i = 5 ∨ i = 6 ∨ i = 7 ∨ i = 8 := by clear hi; omega
          rcases hcase with rfl | rfl | rfl | rfl | rfl | rfl | rfl | rfl | rfl
          · -- 0: move
           obtain rfl := Option.some.inj hi
           have hx0 := hSi
           have hx7 := negF hcl 7 0 (by kernel_rfl) hx0
           have hx8 := negF hcl 8 0 (by kernel_rfl) hx0
           obtain rfl := cr0_0
           obtain rfl := cr1_0 hx8
           obtain rfl := cr2_0
           obtain rfl := cr3_0
           obtain rfl := cr4_0
           obtain rfl := cr5_0
           refine hG (any_step ?_); clear hG G; intro A J hJ
           have hle0 := Fz.le.trans hle0 hle855
           have hs865 := hs3.mono hle855
           have hs866 := hs6.mono hle855
           have hs867 := hs30.mono hle855
           have hs868 := hle264.mono hle855
           have hs869 := hP315.mono hle855
           have hs870 := hP500.mono hle855
           refine s1 hFx 97 (.int .i64 0) ?_; intro a871 hF872; clear hFx
           refine nl (qnI (hJ _ _ ?_)); clear hJ J
           exact ⟨ao836, cap837, .int .i64 0, ud98, ud99, ud100, ud101, ud102, ud103, ud104, .row b132 [.int .u8 48, .int .u8 (w8 u0.Block), .int .u8 0] 5, .row b111 [.int .i64 0, .slice none 0 0, .int .i64 0, .int .i64 u0.Block, .int .i64 0] 71, .row b53 [.int .i64 (((pgetS u0 u1).1).Want), .slice ao28 (((pgetS u0 u1).1).Data).length cap29, .int .i64 (((pgetS u0 u1).1).Next), .int .i64 (((pgetS u0 u1).1).Block), .int .i64 (((pgetS u0 u1).1).Left)] 71, .own (tyInt .u8) 5 ao31 cap32 ((pgetS u0 u1).2.1), .own (tyInt .u8) 5 ao34 cap35 ((pgetS u0 u1).2.2.1), .row b10 [.int .i64 u0.Want, .slice ao1 u0.Data.length cap2, .int .i64 u0.Next, .int .i64 u0.Block, .int .i64 u0.Left] 71, hle855, hF872.region (by kernel_rfl) (by kernel_rfl), hMx.perm (List.Perm.refl _), kf, cu98, cu99, cu100, cu101, cu102, cu103, (nt hx7), rfl, kf, (nt hx8), rfl, rfl, rfl, rfl, cf0⟩
          · -- 1: move
           obtain rfl := Option.some.inj hi
           have hx1 := hSi
           have hx2 := negF hcl 2 1 (by kernel_rfl) hx1
           have hx7 := negF hcl 7 2 (by kernel_rfl) hx2
           have hx8 := negF hcl 8 1 (by kernel_rfl) hx1
           obtain rfl := cr0_0
           obtain rfl := cr1_0 hx8
           obtain rfl := cr2_0
           obtain rfl := cr3_0
           obtain rfl := cr4_0
           obtain rfl := cr5_0
           refine hG (any_step ?_); clear hG G; intro A J hJ
           have hle0 := Fz.le.trans hle0 hle855
           have hs874 := hs3.mono hle855
           have hs875 := hs6.mono hle855
           have hs876 := hs30.mono hle855
           have hs877 := hle264.mono hle855
           have hs878 := hP315.mono hle855
           have hs879 := hP500.mono hle855
           refine s1 hFx 98 (.slice ao4 u1.length cap5) ?_; intro a880 hF881; clear hFx
           refine nl (qnI (hJ _ _ ?_)); clear hJ J
           exact ⟨ao836, cap837, ud97, .slice ao4 u1.length cap5, ud99, ud100, ud101, ud102, ud103, ud104, .row b132 [.int .u8 48, .int .u8 (w8 u0.Block), .int .u8 0] 5, .row b111 [.int .i64 0, .slice none 0 0, .int .i64 0, .int .i64 u0.Block, .int .i64 0] 71, .row b53 [.int .i64 (((pgetS u0 u1).1).Want), .slice ao28 (((pgetS u0 u1).1).Data).length cap29, .int .i64 (((pgetS u0 u1).1).Next), .int .i64 (((pgetS u0 u1).1).Block), .int .i64 (((pgetS u0 u1).1).Left)] 71, .own (tyInt .u8) 5 ao31 cap32 ((pgetS u0 u1).2.1), .own (tyInt .u8) 5 ao34 cap35 ((pgetS u0 u1).2.2.1), .row b10 [.int .i64 u0.Want, .slice ao1 u0.Data.length cap2, .int .i64 u0.Next, .int .i64 u0.Block, .int .i64 u0.Left] 71, hle855, hF881.region (by kernel_rfl) (by kernel_rfl), hMx.perm (List.Perm.refl _), cu97, kf, (nt hx2), cu100, cu101, cu102, cu103, (nt hx7), rfl, kf, (nt hx8), rfl, rfl, rfl, rfl, (nt hx2)⟩
          · -- 2: slice
           obtain rfl := Option.some.inj hi
           have hx1 := hpre 1 (by kernel_rfl)
           have hx2 := hSi
           have hx7 := negF hcl 7 2 (by kernel_rfl) hx2
           have hx8 := negF hcl 8 2 (by kernel_rfl) hx2
           obtain rfl := cu98 hx1
           obtain rfl := cr0_0
           obtain rfl := cr1_0 hx8
           obtain rfl := cr2_0
           obtain rfl := cr3_0
           obtain rfl := cr4_0
           obtain rfl := cr5_0
           refine hG (any_step ?_); clear hG G; intro A J hJ
           have hle0 := Fz.le.trans hle0 hle855
           have hs883 := hs3.mono hle855
           have hs884 := hs6.mono hle855
           have hs885 := hs30.mono hle855
           have hs886 := hle264.mono hle855
           have hs887 := hP315.mono hle855
           have hs888 := hP500.mono hle855
           refine slL hFx (T := (tyInt .u8)) (xs := u1) hs884 (2 : Int) hcd2_0 (k := .i64) (e := 5) (bytes := 1) (nog rfl _) rfl (by kernel_rfl) rfl (by kernel_rfl) (by kernel_rfl) (by kernel_rfl) ?_; intro ao889 cap890 a893 hn891 hs892 hF894; clear hFx
           refine nl (qnI (hJ _ _ ?_)); clear hJ J
           exact ⟨ao889, cap890, ud97, .slice ao4 u1.length cap5, .slice ao889 (u1.drop (2 : Int).toNat).length cap890, ud100, ud101, ud102, ud103, ud104, .row b132 [.int .u8 48, .int .u8 (w8 u0.Block), .int .u8 0] 5, .row b111 [.int .i64 0, .slice none 0 0, .int .i64 0, .int .i64 u0.Block, .int .i64 0] 71, .row b53 [.int .i64 (((pgetS u0 u1).1).Want), .slice ao28 (((pgetS u0 u1).1).Data).length cap29, .int .i64 (((pgetS u0 u1).1).Next), .int .i64 (((pgetS u0 u1).1).Block), .int .i64 (((pgetS u0 u1).1).Left)] 71, .own (tyInt .u8) 5 ao31 cap32 ((pgetS u0 u1).2.1), .own (tyInt .u8) 5 ao34 cap35 ((pgetS u0 u1).2.2.1), .row b10 [.int .i64 u0.Want, .slice ao1 u0.Data.length cap2, .int .i64 u0.Next, .int .i64 u0.Block, .int .i64 u0.Left] 71, hle855, hF894.region (by kernel_rfl) (by kernel_rfl), hMx.perm (List.Perm.refl _), cu97, kf, kf, cu100, cu101, cu102, cu103, (nt hx7), rfl, kf, (nt hx8), rfl, rfl, rfl, rfl, (fun _ => hs892)⟩
          · -- 3: fieldAddr
           obtain rfl := Option.some.inj hi
           have hx3 := hSi
           have hx4 := negF hcl 4 3 (by kernel_rfl) hx3
           have hx7 := negF hcl 7 4 (by kernel_rfl) hx4
           have hx8 := negF hcl 8 3 (by kernel_rfl) hx3
           obtain rfl := cr0_0
           obtain rfl := cr1_0 hx8
           obtain rfl := cr2_0
           obtain rfl := cr3_0
           obtain rfl := cr4_0
           obtain rfl := cr5_0
           refine hG (any_step ?_); clear hG G; intro A J hJ
           have hle0 := Fz.le.trans hle0 hle855
           have hs896 := hs3.mono hle855
           have hs897 := hs6.mono hle855
           have hs898 := hs30.mono hle855
           have hs899 := hle264.mono hle855
           have hs900 := hP315.mono hle855
           have hs901 := hP500.mono hle855
           refine s1 hFx 100 (.pointer (some ⟨b10, 3, none⟩)) ?_; intro a902 hF903; clear hFx
           refine nl (qnI (hJ _ _ ?_)); clear hJ J
           exact ⟨ao836, cap837, ud97, ud98, ud99, .pointer (some ⟨b10, 3, none⟩), ud101, ud102, ud103, ud104, .row b132 [.int .u8 48, .int .u8 (w8 u0.Block), .int .u8 0] 5, .row b111 [.int .i64 0, .slice none 0 0, .int .i64 0, .int .i64 u0.Block, .int .i64 0] 71, .row b53 [.int .i64 (((pgetS u0 u1).1).Want), .slice ao28 (((pgetS u0 u1).1).Data).length cap29, .int .i64 (((pgetS u0 u1).1).Next), .int .i64 (((pgetS u0 u1).1).Block), .int .i64 (((pgetS u0 u1).1).Left)] 71, .own (tyInt .u8) 5 ao31 cap32 ((pgetS u0 u1).2.1), .own (tyInt .u8) 5 ao34 cap35 ((pgetS u0 u1).2.2.1), .row b10 [.int .i64 u0.Want, .slice ao1 u0.Data.length cap2, .int .i64 u0.Next, .int .i64 u0.Block, .int .i64 u0.Left] 71, hle855, hF903.region (by kernel_rfl) (by kernel_rfl), hMx.perm (List.Perm.refl _), cu97, cu98, cu99, kf, (nt hx4), cu102, cu103, (nt hx7), rfl, kf, (nt hx8), rfl, rfl, rfl, rfl, cf0⟩
          · -- 4: load
           obtain rfl := Option.some.inj hi
           have hx3 := hpre 3 (by kernel_rfl)
           have hx4 := hSi
           have hx7 := negF hcl 7 4 (by kernel_rfl) hx4
           have hx8 := negF hcl 8 4 (by kernel_rfl) hx4
           obtain rfl := cu100 hx3
           obtain rfl := cr0_0
           obtain rfl := cr1_0 hx8
           obtain rfl := cr2_0
           obtain rfl := cr3_0
           obtain rfl := cr4_0
           obtain rfl := cr5_0
           refine hG (any_step ?_); clear hG G; intro A J hJ
           have hle0 := Fz.le.trans hle0 hle855
           have hs905 := hs3.mono hle855
           have hs906 := hs6.mono hle855
           have hs907 := hs30.mono hle855
           have hs908 := hle264.mono hle855
           have hs909 := hP315.mono hle855
           have hs910 := hP500.mono hle855
           refine l1 hFx hMx 101 5 3 (.int .i64 u0.Block) rfl rfl ?_; intro a911 hF912; clear hFx
           refine nl (qnI (hJ _ _ ?_)); clear hJ J
           exact ⟨ao836, cap837, ud97, ud98, ud99, .pointer (some ⟨b10, 3, none⟩), .int .i64 u0.Block, ud102, ud103, ud104, .row b132 [.int .u8 48, .int .u8 (w8 u0.Block), .int .u8 0] 5, .row b111 [.int .i64 0, .slice none 0 0, .int .i64 0, .int .i64 u0.Block, .int .i64 0] 71, .row b53 [.int .i64 (((pgetS u0 u1).1).Want), .slice ao28 (((pgetS u0 u1).1).Data).length cap29, .int .i64 (((pgetS u0 u1).1).Next), .int .i64 (((pgetS u0 u1).1).Block), .int .i64 (((pgetS u0 u1).1).Left)] 71, .own (tyInt .u8) 5 ao31 cap32 ((pgetS u0 u1).2.1), .own (tyInt .u8) 5 ao34 cap35 ((pgetS u0 u1).2.2.1), .row b10 [.int .i64 u0.Want, .slice ao1 u0.Data.length cap2, .int .i64 u0.Next, .int .i64 u0.Block, .int .i64 u0.Left] 71, hle855, hF912.region (by kernel_rfl) (by kernel_rfl), hMx.perm (List.Perm.refl _), cu97, cu98, cu99, kf, kf, cu102, cu103, (nt hx7), rfl, kf, (nt hx8), rfl, rfl, rfl, rfl, cf0⟩
          · -- 5: fieldAddr
           obtain rfl := Option.some.inj hi
           have hx5 := hSi
           have hx6 := negF hcl 6 5 (by kernel_rfl) hx5
           have hx7 := negF hcl 7 6 (by kernel_rfl) hx6
           have hx8 := negF hcl 8 5 (by kernel_rfl) hx5
           obtain rfl := cr0_0
           obtain rfl := cr1_0 hx8
           obtain rfl := cr2_0
           obtain rfl := cr3_0
           obtain rfl := cr4_0
           obtain rfl := cr5_0
           refine hG (any_step ?_); clear hG G; intro A J hJ
           have hle0 := Fz.le.trans hle0 hle855
           have hs914 := hs3.mono hle855
           have hs915 := hs6.mono hle855
           have hs916 := hs30.mono hle855
           have hs917 := hle264.mono hle855
           have hs918 := hP315.mono hle855
           have hs919 := hP500.mono hle855
           refine s1 hFx 102 (.pointer (some ⟨b10, 3, none⟩)) ?_; intro a920 hF921; clear hFx
           refine nl (qnI (hJ _ _ ?_)); clear hJ J
           exact ⟨ao836, cap837, ud97, ud98, ud99, ud100, ud101, .pointer (some ⟨b10, 3, none⟩), ud103, ud104, .row b132 [.int .u8 48, .int .u8 (w8 u0.Block), .int .u8 0] 5, .row b111 [.int .i64 0, .slice none 0 0, .int .i64 0, .int .i64 u0.Block, .int .i64 0] 71, .row b53 [.int .i64 (((pgetS u0 u1).1).Want), .slice ao28 (((pgetS u0 u1).1).Data).length cap29, .int .i64 (((pgetS u0 u1).1).Next), .int .i64 (((pgetS u0 u1).1).Block), .int .i64 (((pgetS u0 u1).1).Left)] 71, .own (tyInt .u8) 5 ao31 cap32 ((pgetS u0 u1).2.1), .own (tyInt .u8) 5 ao34 cap35 ((pgetS u0 u1).2.2.1), .row b10 [.int .i64 u0.Want, .slice ao1 u0.Data.length cap2, .int .i64 u0.Next, .int .i64 u0.Block, .int .i64 u0.Left] 71, hle855, hF921.region (by kernel_rfl) (by kernel_rfl), hMx.perm (List.Perm.refl _), cu97, cu98, cu99, cu100, cu101, kf, (nt hx6), (nt hx7), rfl, kf, (nt hx8), rfl, rfl, rfl, rfl, cf0⟩
          · -- 6: load
           obtain rfl := Option.some.inj hi
           have hx5 := hpre 5 (by kernel_rfl)
           have hx6 := hSi
           have hx7 := negF hcl 7 6 (by kernel_rfl) hx6
           have hx8 := negF hcl 8 6 (by kernel_rfl) hx6
           obtain rfl := cu102 hx5
           obtain rfl := cr0_0
           obtain rfl := cr1_0 hx8
           obtain rfl := cr2_0
           obtain rfl := cr3_0
           obtain rfl := cr4_0
           obtain rfl := cr5_0
           refine hG (any_step ?_); clear hG G; intro A J hJ
           have hle0 := Fz.le.trans hle0 hle855
           have hs923 := hs3.mono hle855
           have hs924 := hs6.mono hle855
           have hs925 := hs30.mono hle855
           have hs926 := hle264.mono hle855
           have hs927 := hP315.mono hle855
           have hs928 := hP500.mono hle855
           refine l1 hFx hMx 103 5 3 (.int .i64 u0.Block) rfl rfl ?_; intro a929 hF930; clear hFx
           refine nl (qnI (hJ _ _ ?_)); clear hJ J
           exact ⟨ao836, cap837, ud97, ud98, ud99, ud100, ud101, .pointer (some ⟨b10, 3, none⟩), .int .i64 u0.Block, ud104, .row b132 [.int .u8 48, .int .u8 (w8 u0.Block), .int .u8 0] 5, .row b111 [.int .i64 0, .slice none 0 0, .int .i64 0, .int .i64 u0.Block, .int .i64 0] 71, .row b53 [.int .i64 (((pgetS u0 u1).1).Want), .slice ao28 (((pgetS u0 u1).1).Data).length cap29, .int .i64 (((pgetS u0 u1).1).Next), .int .i64 (((pgetS u0 u1).1).Block), .int .i64 (((pgetS u0 u1).1).Left)] 71, .own (tyInt .u8) 5 ao31 cap32 ((pgetS u0 u1).2.1), .own (tyInt .u8) 5 ao34 cap35 ((pgetS u0 u1).2.2.1), .row b10 [.int .i64 u0.Want, .slice ao1 u0.Data.length cap2, .int .i64 u0.Next, .int .i64 u0.Block, .int .i64 u0.Left] 71, hle855, hF930.region (by kernel_rfl) (by kernel_rfl), hMx.perm (List.Perm.refl _), cu97, cu98, cu99, cu100, cu101, kf, kf, (nt hx7), rfl, kf, (nt hx8), rfl, rfl, rfl, rfl, cf0⟩
          · -- 7: build
           obtain rfl := Option.some.inj hi
           have hx6 := hpre 6 (by kernel_rfl)
           have hx4 := hpre 4 (by kernel_rfl)
           have hx2 := hpre 2 (by kernel_rfl)
           have hx0 := hpre 0 (by kernel_rfl)
           have hx5 := hcl 6 5 (by kernel_rfl) hx6
           have hx3 := hcl 4 3 (by kernel_rfl) hx4
           have hx1 := hcl 2 1 (by kernel_rfl) hx2
           have hx7 := hSi
           have hx8 := negF hcl 8 7 (by kernel_rfl) hx7
           obtain rfl := cu97 hx0
           obtain rfl := cu98 hx1
           obtain rfl := cu99 hx2
           obtain rfl := cu100 hx3
           obtain rfl := cu101 hx4
           obtain rfl := cu102 hx5
           obtain rfl := cu103 hx6
           obtain rfl := cr0_0
           obtain rfl := cr1_0 hx8
           obtain rfl := cr2_0
           obtain rfl := cr3_0
           obtain rfl := cr4_0
           obtain rfl := cr5_0
           refine hG (any_step ?_); clear hG G; intro A J hJ
           have hle0 := Fz.le.trans hle0 hle855
           have hs932 := hs3.mono hle855
           have hs933 := hs6.mono hle855
           have hs934 := hs30.mono hle855
           have hs935 := hle264.mono hle855
           have hs936 := hP315.mono hle855
           have hs937 := hP500.mono hle855
           have hs938 := cf0 hx2
           refine s1 hFx 104 (.agg #[.int .i64 0, .slice ao836 (u1.drop (2 : Int).toNat).length cap837, .int .i64 1, .int .i64 u0.Block, .int .i64 u0.Block]) ?_; intro a939 hF940; clear hFx
           refine nl (qnI (hJ _ _ ?_)); clear hJ J
           exact ⟨ao836, cap837, .int .i64 0, .slice ao4 u1.length cap5, .slice ao836 (u1.drop (2 : Int).toNat).length cap837, .pointer (some ⟨b10, 3, none⟩), .int .i64 u0.Block, .pointer (some ⟨b10, 3, none⟩), .int .i64 u0.Block, .agg #[.int .i64 0, .slice ao836 (u1.drop (2 : Int).toNat).length cap837, .int .i64 1, .int .i64 u0.Block, .int .i64 u0.Block], .row b132 [.int .u8 48, .int .u8 (w8 u0.Block), .int .u8 0] 5, .row b111 [.int .i64 0, .slice none 0 0, .int .i64 0, .int .i64 u0.Block, .int .i64 0] 71, .row b53 [.int .i64 (((pgetS u0 u1).1).Want), .slice ao28 (((pgetS u0 u1).1).Data).length cap29, .int .i64 (((pgetS u0 u1).1).Next), .int .i64 (((pgetS u0 u1).1).Block), .int .i64 (((pgetS u0 u1).1).Left)] 71, .own (tyInt .u8) 5 ao31 cap32 ((pgetS u0 u1).2.1), .own (tyInt .u8) 5 ao34 cap35 ((pgetS u0 u1).2.2.1), .row b10 [.int .i64 u0.Want, .slice ao1 u0.Data.length cap2, .int .i64 u0.Next, .int .i64 u0.Block, .int .i64 u0.Left] 71, hle855, hF940.region (by kernel_rfl) (by kernel_rfl), hMx.perm (List.Perm.refl _), kf, kf, kf, kf, kf, kf, kf, kf, rfl, kf, (nt hx8), rfl, rfl, rfl, rfl, (fun _ => hs938)⟩
          · -- 8: store
           obtain rfl := Option.some.inj hi
           have hx7 := hpre 7 (by kernel_rfl)
           have hx6 := hpre 6 (by kernel_rfl)
           have hx5 := hpre 5 (by kernel_rfl)
           have hx4 := hpre 4 (by kernel_rfl)
           have hx3 := hpre 3 (by kernel_rfl)
           have hx2 := hpre 2 (by kernel_rfl)
           have hx1 := hpre 1 (by kernel_rfl)
           have hx0 := hpre 0 (by kernel_rfl)
           have hx8 := hSi
           obtain rfl := cu97 hx0
           obtain rfl := cu98 hx1
           obtain rfl := cu99 hx2
           obtain rfl := cu100 hx3
           obtain rfl := cu101 hx4
           obtain rfl := cu102 hx5
           obtain rfl := cu103 hx6
           obtain rfl := cu104 hx7
           obtain rfl := cr0_0
           obtain rfl := cr1_0 hx8
           obtain rfl := cr2_0
           obtain rfl := cr3_0
           obtain rfl := cr4_0
           obtain rfl := cr5_0
           refine hG (any_step ?_); clear hG G; intro A J hJ
           have hle0 := Fz.le.trans hle0 hle855
           have hs942 := hs3.mono hle855
           have hs943 := hs6.mono hle855
           have hs944 := hs30.mono hle855
           have hs945 := hle264.mono hle855
           have hs946 := hP315.mono hle855
           have hs947 := hP500.mono hle855
           have hs948 := cf0 hx2
           refine sr hFx hMx 1 [.int .i64 0, .slice ao836 (u1.drop (2 : Int).toNat).length cap837, .int .i64 1, .int .i64 u0.Block, .int .i64 u0.Block] (b := b111) (off := 0) (cs := [.int .i64 0, .slice none 0 0, .int .i64 0, .int .i64 u0.Block, .int .i64 0]) (ty := 71) (u := .agg #[.int .i64 0, .slice ao836 (u1.drop (2 : Int).toNat).length cap837, .int .i64 1, .int .i64 u0.Block, .int .i64 u0.Block]) (nog rfl _) rfl rfl (by kernel_rfl) (by kernel_rfl) (by kernel_rfl) (by kernel_rfl) (by kernel_rfl) (by kernel_rfl) (by kernel_rfl) ?_; intro wd949 hM950; clear hMx
           refine nl (qnI (hJ _ _ ?_)); clear hJ J
           exact ⟨ao836, cap837, .int .i64 0, .slice ao4 u1.length cap5, .slice ao836 (u1.drop (2 : Int).toNat).length cap837, .pointer (some ⟨b10, 3, none⟩), .int .i64 u0.Block, .pointer (some ⟨b10, 3, none⟩), .int .i64 u0.Block, .agg #[.int .i64 0, .slice ao836 (u1.drop (2 : Int).toNat).length cap837, .int .i64 1, .int .i64 u0.Block, .int .i64 u0.Block], .row b132 [.int .u8 48, .int .u8 (w8 u0.Block), .int .u8 0] 5, .row b111 [.int .i64 0, .slice ao836 (u1.drop (2 : Int).toNat).length cap837, .int .i64 1, .int .i64 u0.Block, .int .i64 u0.Block] 71, .row b53 [.int .i64 (((pgetS u0 u1).1).Want), .slice ao28 (((pgetS u0 u1).1).Data).length cap29, .int .i64 (((pgetS u0 u1).1).Next), .int .i64 (((pgetS u0 u1).1).Block), .int .i64 (((pgetS u0 u1).1).Left)] 71, .own (tyInt .u8) 5 ao31 cap32 ((pgetS u0 u1).2.1), .own (tyInt .u8) 5 ao34 cap35 ((pgetS u0 u1).2.2.1), .row b10 [.int .i64 u0.Want, .slice ao1 u0.Data.length cap2, .int .i64 u0.Next, .int .i64 u0.Block, .int .i64 u0.Left] 71, hle855, hFx.region (by kernel_rfl) (by kernel_rfl), hM950.perm (List.Perm.refl _), kf, kf, kf, kf, kf, kf, kf, kf, rfl, nu, kf, rfl, rfl, rfl, rfl, (fun _ => hs948)⟩
         case hE =>
          intro S hS a952 wd953 hI; refine hid ?_; intro G hG; obtain ⟨ao836, hI⟩ := hI; obtain ⟨cap837, hI⟩ := hI; obtain ⟨ud97, hI⟩ := hI; obtain ⟨ud98, hI⟩ := hI; obtain ⟨ud99, hI⟩ := hI; obtain ⟨ud100, hI⟩ := hI; obtain ⟨ud101, hI⟩ := hI; obtain ⟨ud102, hI⟩ := hI; obtain ⟨ud103, hI⟩ := hI; obtain ⟨ud104, hI⟩ := hI; obtain ⟨rh0, hI⟩ := hI; obtain ⟨rh1, hI⟩ := hI; obtain ⟨rh2, hI⟩ := hI; obtain ⟨rh3, hI⟩ := hI; obtain ⟨rh4, hI⟩ := hI; obtain ⟨rh5, hI⟩ := hI; obtain ⟨hle855, hI⟩ := hI; obtain ⟨hFx, hI⟩ := hI; obtain ⟨hMx, hI⟩ := hI; obtain ⟨cu97, hI⟩ := hI; obtain ⟨cu98, hI⟩ := hI; obtain ⟨cu99, hI⟩ := hI; obtain ⟨cu100, hI⟩ := hI; obtain ⟨cu101, hI⟩ := hI; obtain ⟨cu102, hI⟩ := hI; obtain ⟨cu103, hI⟩ := hI; obtain ⟨cu104, hI⟩ := hI; obtain ⟨cr0_0, hI⟩ := hI; obtain ⟨cr1_0, hI⟩ := hI; obtain ⟨cr1_1, hI⟩ := hI; obtain ⟨cr2_0, hI⟩ := hI; obtain ⟨cr3_0, hI⟩ := hI; obtain ⟨cr4_0, hI⟩ := hI; obtain ⟨cr5_0, hI⟩ := hI; have cf0 := hI; clear hI; refine hG ?_; clear hG G
          obtain rfl := cu97 (hS 0 (by decide))
          obtain rfl := cu98 (hS 1 (by decide))
          obtain rfl := cu99 (hS 2 (by decide))
          obtain rfl := cu100 (hS 3 (by decide))
          obtain rfl := cu101 (hS 4 (by decide))
          obtain rfl := cu102 (hS 5 (by decide))
          obtain rfl := cu103 (hS 6 (by decide))
          obtain rfl := cu104 (hS 7 (by decide))
          obtain rfl := cr0_0
          obtain rfl := cr1_1 (hS 8 (by decide))
          obtain rfl := cr2_0
          obtain rfl := cr3_0
          obtain rfl := cr4_0
          obtain rfl := cr5_0
          have hle0 := Fz.le.trans hle0 hle855
          have hs954 := hs3.mono hle855
          have hs955 := hs6.mono hle855
          have hs956 := hs30.mono hle855
          have hs957 := hle264.mono hle855
          have hs958 := hP315.mono hle855
          have hs959 := hP500.mono hle855
          have hs960 := cf0 (hS 2 (by decide))
          refine thn ?_
          have hF961 : Fr 229 [] [⟨5, [], .pointer (some ⟨b53, 0, none⟩)⟩, ⟨6, [], .slice ao31 ((pgetS u0 u1).2.1).length cap32⟩, ⟨7, [], .slice ao34 ((pgetS u0 u1).2.2.1).length cap35⟩, ⟨8, [], .int .i64 ((pgetS u0 u1).2.2.2.1)⟩, ⟨9, [], .int .i64 (rcheckg u0)⟩, ⟨10, [], .pointer (some ⟨b111, 0, none⟩)⟩, ⟨12, [], .slice none 0 0⟩, ⟨13, [], .slice (some ⟨b132, 0, none⟩) 3 3⟩] a952 := hFx.region (by kernel_rfl) (by kernel_rfl); clear hFx
          refine rgH ?_; intro hQ962Q hQ962
          refine s1 hF961 105 (.slice (some ⟨b132, 0, none⟩) 3 3) ?_; intro a963 hF964; clear hF961
          refine s1 hF964 11 (.slice (some ⟨b132, 0, none⟩) 3 3) ?_; intro a965 hF966; clear hF964
          refine nlH (hQ962 _ _ ?_); clear hQ962 hQ962Q
          refine ibn ?_
          refine ibn ?_
          refine rd ?_
          have hM967 : Mem w.heap.size [] w Z [.own (tyInt .u8) 5 (some ⟨b132, 0, none⟩) 3 ([48, w8 u0.Block, 0] : List Int), .row b111 [.int .i64 0, .slice ao836 (u1.drop (2 : Int).toNat).length cap837, .int .i64 1, .int .i64 u0.Block, .int .i64 u0.Block] 71, .row b53 [.int .i64 (((pgetS u0 u1).1).Want), .slice ao28 (((pgetS u0 u1).1).Data).length cap29, .int .i64 (((pgetS u0 u1).1).Next), .int .i64 (((pgetS u0 u1).1).Block), .int .i64 (((pgetS u0 u1).1).Left)] 71, .own (tyInt .u8) 5 ao31 cap32 ((pgetS u0 u1).2.1), .own (tyInt .u8) 5 ao34 cap35 ((pgetS u0 u1).2.2.1), .row b10 [.int .i64 u0.Want, .slice ao1 u0.Data.length cap2, .int .i64 u0.Next, .int .i64 u0.Block, .int .i64 u0.Left] 71] Z37 wd953 := hMx.rowOwn (T := (tyInt .u8)) (xs := ([48, w8 u0.Block, 0] : List Int)) 0 rfl (by decide) (by show 3 ≤ lim; decide) ((RepAll.one (T := (tyInt .u8)) (x := 48) rfl).append ((RepAll.one (T := (tyInt .u8)) (x := w8 u0.Block) rfl).append (RepAll.one (T := (tyInt .u8)) (x := 0) rfl))); clear hMx
          obtain ⟨Z968, hle969, hM970, hs971⟩ := hM967.freeze 0 rfl
          replace hs954 := hs954.mono hle969
          replace hs955 := hs955.mono hle969
          replace hs956 := hs956.mono hle969
          replace hs957 := hs957.mono hle969
          replace hs958 := hs958.mono hle969
          replace hs959 := hs959.mono hle969
          replace hs960 := hs960.mono hle969
          replace hle0 := Fz.le.trans hle0 hle969
          have hM972 : Mem w.heap.size [] w Z [.row b111 [.int .i64 0, .slice ao836 (u1.drop (2 : Int).toNat).length cap837, .int .i64 1, .int .i64 u0.Block, .int .i64 u0.Block] 71, .row b53 [.int .i64 (((pgetS u0 u1).1).Want), .slice ao28 (((pgetS u0 u1).1).Data).length cap29, .int .i64 (((pgetS u0 u1).1).Next), .int .i64 (((pgetS u0 u1).1).Block), .int .i64 (((pgetS u0 u1).1).Left)] 71, .own (tyInt .u8) 5 ao31 cap32 ((pgetS u0 u1).2.1), .own (tyInt .u8) 5 ao34 cap35 ((pgetS u0 u1).2.2.1), .row b10 [.int .i64 u0.Want, .slice ao1 u0.Data.length cap2, .int .i64 u0.Next, .int .i64 u0.Block, .int .i64 u0.Left] 71] Z968 wd953 := hM970; clear hM970
          exact hJ146 (rcheckg u0) ([48, w8 u0.Block, 0] : List Int) [] (⟨0, u1.drop (2 : Int).toNat, 1, u0.Block, u0.Block⟩ : Getter) (some ⟨b132, 0, none⟩) 3 none 0 ao836 cap837 Z968 ⟨hp854, hs971, (SlR.nil _ _), hs960, hs957⟩ _ _ ((hF966.region (by kernel_rfl) (by kernel_rfl)).anyβ _ (by kernel_rfl)) (hM972.keep (List.Sublist.cons_cons _ (List.Sublist.cons_cons _ (List.Sublist.cons_cons _ (List.Sublist.cons_cons _ (List.Sublist.cons_cons _ (List.Sublist.slnil)))))))
      · -- no
       have hp973 := hp504.2 hb511; clear hp504
       refine sqH ?_; intro hQ974Q hQ974
       refine s1 hF510 119 (.slice ao4 u1.length cap5) ?_; intro a975 hF976; clear hF510
       have hc977 := hp973.1; have hp978 := hp973.2; clear hp973
       refine ix hF976 (T := (tyInt .u8)) (xs := u1) hs6 (0 : Int) hc977 (k := .i64) (e := 5) (bytes := 1) (nog rfl _) rfl (by kernel_rfl) rfl (by kernel_rfl) (by kernel_rfl) (by kernel_rfl) ?_; intro b979 off980 cs981 q982 a986 hq983 hP984 hT985 hF987; clear hF976
       have hp988 := hp978 q982 hq983; clear hp978
       obtain rfl : cs981 = ([.int .u8 q982] : List Value) := hT985
       refine z1 hF987 hM136 121 hP984 0 (.int .u8 q982) rfl ?_; intro a989 hF990; clear hF987
       refine s1 hF990 122 (.bool (decide (q982 < 48))) ?_; intro a991 hF992; clear hF990
       refine s1 hF992 118 (.bool (decide (q982 < 48))) ?_; intro a993 hF994; clear hF992
       refine nlH (hQ974 _ _ ?_); clear hQ974 hQ974Q
       refine cd hF994 (t := decide (q982 < 48)) (by kernel_rfl) (fun hb995 => ?_) (fun hb995 => ?_)
       · -- yes
        have hp996 := hp988.1 hb995; clear hp988
        refine wp_block ?_
        refine sqH ?_; intro hQ997Q hQ997
        refine s1 hF994 151 (.pointer (some ⟨b10, 0, none⟩)) ?_; intro a998 hF999; clear hF994
        refine l1 hF999 hM136 152 5 0 (.int .i64 u0.Want) rfl rfl ?_; intro a1000 hF1001; clear hF999
        refine s1 hF1001 153 (.bool (u0.Want == 0)) ?_; intro a1002 hF1003; clear hF1001
        refine s1 hF1003 150 (.bool (u0.Want == 0)) ?_; intro a1004 hF1005; clear hF1003
        refine nlH (hQ997 _ _ ?_); clear hQ997 hQ997Q
        refine cd hF1005 (t := u0.Want == 0) (by kernel_rfl) (fun hb1006 => ?_) (fun hb1006 => ?_)
        · -- yes
         have hp1007 := hp996.1 hb1006; clear hp996
         have hF1008 : Fr 229 [] [⟨5, [], .pointer (some ⟨b53, 0, none⟩)⟩, ⟨6, [], .slice ao31 ((pgetS u0 u1).2.1).length cap32⟩, ⟨7, [], .slice ao34 ((pgetS u0 u1).2.2.1).length cap35⟩, ⟨8, [], .int .i64 ((pgetS u0 u1).2.2.2.1)⟩, ⟨10, [], .pointer (some ⟨b111, 0, none⟩)⟩, ⟨11, [], .slice none 0 0⟩, ⟨12, [], .slice none 0 0⟩] a1004 := hF1005.region (by kernel_rfl) (by kernel_rfl); clear hF1005
         refine rgH ?_; intro hQ1009Q hQ1009
         refine s1 hF1008 9 (.int .i64 12) ?_; intro a1010 hF1011; clear hF1008
         refine nlH (hQ1009 _ _ ?_); clear hQ1009 hQ1009Q
         refine ibn ?_
         refine ibn ?_
         refine rd ?_
         exact hJ146 12 [] [] (⟨0, [], 0, u0.Block, 0⟩ : Getter) none 0 none 0 none 0 Z37 ⟨hp1007, (SlR.nil _ _), (SlR.nil _ _), (SlR.nil _ _), hle264⟩ _ _ ((hF1011.region (by kernel_rfl) (by kernel_rfl)).anyβ _ (by kernel_rfl)) (hM136.keep (List.Sublist.cons _ (List.Sublist.cons_cons _ (List.Sublist.cons_cons _ (List.Sublist.cons_cons _ (List.Sublist.cons_cons _ (List.Sublist.cons_cons _ (List.Sublist.slnil))))))))
        · -- no
         have hp1012 := hp996.2 hb1006; clear hp996
         have hF1013 : Fr 229 [] [⟨1, [], .slice ao4 u1.length cap5⟩, ⟨2, [], .pointer (some ⟨b10, 0, none⟩)⟩, ⟨5, [], .pointer (some ⟨b53, 0, none⟩)⟩, ⟨6, [], .slice ao31 ((pgetS u0 u1).2.1).length cap32⟩, ⟨7, [], .slice ao34 ((pgetS u0 u1).2.2.1).length cap35⟩, ⟨8, [], .int .i64 ((pgetS u0 u1).2.2.2.1)⟩, ⟨9, [], .int .i64 (rcheckg u0)⟩, ⟨10, [], .pointer (some ⟨b111, 0, none⟩)⟩, ⟨11, [], .slice none 0 0⟩, ⟨12, [], .slice none 0 0⟩, ⟨13, [], .slice (some ⟨b132, 0, none⟩) 3 3⟩] a1004 := hF1005.region (by kernel_rfl) (by kernel_rfl); clear hF1005
         refine sqQH mixed (by kernel_rfl) hM136 ?_; intro hQ1014Q hQ1014
         refine q1 hF1013 155 (.slice ao4 u1.length cap5) ?_; intro a1016 hF1017; clear hF1013
         have hc1019 := hp1012.1; have hp1020 := hp1012.2; clear hp1012
         refine qix hF1017 (T := (tyInt .u8)) (xs := u1) hs6 (0 : Int) hc1019 (k := .i64) (e := 5) (bytes := 1) (nog rfl _) rfl (by kernel_rfl) rfl (by kernel_rfl) (by kernel_rfl) (by kernel_rfl) ?_; intro b1021 off1022 cs1023 q1024 a1028 hq1025 hP1026 hT1027 hF1029; clear hF1017
         have hp1030 := hp1020 q1024 hq1025; clear hp1020
         obtain rfl : cs1023 = ([.int .u8 q1024] : List Value) := hT1027
         refine qst hF1029 (.int .u8 q1024) (nog rfl _) rfl (by kernel_rfl) (fun v1031 hC => lz hF1029 hC.fz hP1026 0 (g := []) rfl (by kernel_rfl) (by kernel_rfl) (by kernel_rfl) rfl) ?_; intro a1032 hF1033; clear hF1029
         refine q1 hF1033 158 (.int .u8 (w8 (q1024 - 32))) ?_; intro a1035 hF1036; clear hF1033
         refine q1 hF1036 159 (.int .i64 (w64 (w8 (q1024 - 32)))) ?_; intro a1038 hF1039; clear hF1036
         refine q1 hF1039 160 (.pointer (some ⟨b10, 2, none⟩)) ?_; intro a1041 hF1042; clear hF1039
         refine qst hF1042 (.int .i64 u0.Next) (nog rfl _) rfl (by kernel_rfl) (fun v1043 hC => ld hF1042 hC 5 (g := []) (b := b10) (off := 2) (cs := [.int .i64 u0.Want, .slice ao1 u0.Data.length cap2, .int .i64 u0.Next, .int .i64 u0.Block, .int .i64 u0.Left]) (ty := 71) rfl (by kernel_rfl) (by kernel_rfl) (by kernel_rfl) (by kernel_rfl) rfl) ?_; intro a1044 hF1045; clear hF1042
         refine q1 hF1045 162 (.bool ((w64 (w8 (q1024 - 32))) != u0.Next)) ?_; intro a1047 hF1048; clear hF1045
         refine q1 hF1048 154 (.bool ((w64 (w8 (q1024 - 32))) != u0.Next)) ?_; intro a1050 hF1051; clear hF1048
         refine qnl (hQ1014 _ ?_); clear hQ1014 hQ1014Q; intro wd1052 hM1053; clear hM136
         refine cd hF1051 (t := (w64 (w8 (q1024 - 32))) != u0.Next) (by kernel_rfl) (fun hb1054 => ?_) (fun hb1054 => ?_)
         · -- yes
          have hp1055 := hp1030.1 hb1054; clear hp1030
          refine rgH ?_; intro hQ1056Q hQ1056
          refine s1 hF1051 9 (.int .i64 14) ?_; intro a1057 hF1058; clear hF1051
          refine nlH (hQ1056 _ _ ?_); clear hQ1056 hQ1056Q
          refine ibn ?_
          refine ibn ?_
          refine rd ?_
          exact hJ146 14 [] [] (⟨0, [], 0, u0.Block, 0⟩ : Getter) none 0 none 0 none 0 Z37 ⟨hp1055, (SlR.nil _ _), (SlR.nil _ _), (SlR.nil _ _), hle264⟩ _ _ ((hF1058.region (by kernel_rfl) (by kernel_rfl)).anyβ _ (by kernel_rfl)) (hM1053.keep (List.Sublist.cons _ (List.Sublist.cons_cons _ (List.Sublist.cons_cons _ (List.Sublist.cons_cons _ (List.Sublist.cons_cons _ (List.Sublist.cons_cons _ (List.Sublist.slnil))))))))
         · -- no
          have hp1059 := hp1030.2 hb1054; clear hp1030
          refine sqH ?_; intro hQ1060Q hQ1060
          refine s1 hF1051 164 (.slice ao4 u1.length cap5) ?_; intro a1061 hF1062; clear hF1051
          refine s1 hF1062 165 (.int .i64 (u1.length : Int)) ?_; intro a1063 hF1064; clear hF1062
          refine s1 hF1064 166 (.pointer (some ⟨b10, 0, none⟩)) ?_; intro a1065 hF1066; clear hF1064
          refine l1 hF1066 hM1053 167 5 0 (.int .i64 u0.Want) rfl rfl ?_; intro a1067 hF1068; clear hF1066
          refine s1 hF1068 168 (.pointer (some ⟨b10, 1, none⟩)) ?_; intro a1069 hF1070; clear hF1068
          refine l1 hF1070 hM1053 169 5 1 (.slice ao1 u0.Data.length cap2) rfl rfl ?_; intro a1071 hF1072; clear hF1070
          refine s1 hF1072 170 (.int .i64 (u0.Data.length : Int)) ?_; intro a1073 hF1074; clear hF1072
          refine s1 hF1074 171 (.int .i64 (w64 (u0.Want - (u0.Data.length : Int)))) ?_; intro a1075 hF1076; clear hF1074
          refine st hF1076 (.int .i64 (min 7 (w64 (u0.Want - (u0.Data.length : Int))))) (nog rfl _) rfl (by kernel_rfl) (re_ (p0 hF1076 (r := .ok (.value (.int .i64 (if (w64 (u0.Want - (u0.Data.length : Int))) < 7 then (w64 (u0.Want - (u0.Data.length : Int))) else 7))) wd1052) (by kernel_rfl)) (by rw [imin])) ?_; intro a1077 hF1078; clear hF1076
          refine s1 hF1078 173 (.int .i64 (w64 (1 + (min 7 (w64 (u0.Want - (u0.Data.length : Int))))))) ?_; intro a1079 hF1080; clear hF1078
          refine s1 hF1080 174 (.bool ((u1.length : Int) != (w64 (1 + (min 7 (w64 (u0.Want - (u0.Data.length : Int)))))))) ?_; intro a1081 hF1082; clear hF1080
          refine s1 hF1082 163 (.bool ((u1.length : Int) != (w64 (1 + (min 7 (w64 (u0.Want - (u0.Data.length : Int)))))))) ?_; intro a1083 hF1084; clear hF1082
          refine nlH (hQ1060 _ _ ?_); clear hQ1060 hQ1060Q
          refine cd hF1084 (t := (u1.length : Int) != (w64 (1 + (min 7 (w64 (u0.Want - (u0.Data.length : Int))))))) (by kernel_rfl) (fun hb1085 => ?_) (fun hb1085 => ?_)
          · -- yes
           have hp1086 := hp1059.1 hb1085; clear hp1059
           have hF1087 : Fr 229 [] [⟨5, [], .pointer (some ⟨b53, 0, none⟩)⟩, ⟨6, [], .slice ao31 ((pgetS u0 u1).2.1).length cap32⟩, ⟨7, [], .slice ao34 ((pgetS u0 u1).2.2.1).length cap35⟩, ⟨8, [], .int .i64 ((pgetS u0 u1).2.2.2.1)⟩, ⟨10, [], .pointer (some ⟨b111, 0, none⟩)⟩, ⟨11, [], .slice none 0 0⟩, ⟨12, [], .slice none 0 0⟩] a1083 := hF1084.region (by kernel_rfl) (by kernel_rfl); clear hF1084
           refine rgH ?_; intro hQ1088Q hQ1088
           refine s1 hF1087 9 (.int .i64 4) ?_; intro a1089 hF1090; clear hF1087
           refine nlH (hQ1088 _ _ ?_); clear hQ1088 hQ1088Q
           refine ibn ?_
           refine ibn ?_
           refine rd ?_
           exact hJ146 4 [] [] (⟨0, [], 0, u0.Block, 0⟩ : Getter) none 0 none 0 none 0 Z37 ⟨hp1086, (SlR.nil _ _), (SlR.nil _ _), (SlR.nil _ _), hle264⟩ _ _ ((hF1090.region (by kernel_rfl) (by kernel_rfl)).anyβ _ (by kernel_rfl)) (hM1053.keep (List.Sublist.cons _ (List.Sublist.cons_cons _ (List.Sublist.cons_cons _ (List.Sublist.cons_cons _ (List.Sublist.cons_cons _ (List.Sublist.cons_cons _ (List.Sublist.slnil))))))))
          · -- no
           have hp1091 := hp1059.2 hb1085; clear hp1059
           have hF1092 : Fr 229 [] [⟨1, [], .slice ao4 u1.length cap5⟩, ⟨2, [], .pointer (some ⟨b10, 0, none⟩)⟩, ⟨5, [], .pointer (some ⟨b53, 0, none⟩)⟩, ⟨6, [], .slice ao31 ((pgetS u0 u1).2.1).length cap32⟩, ⟨7, [], .slice ao34 ((pgetS u0 u1).2.2.1).length cap35⟩, ⟨8, [], .int .i64 ((pgetS u0 u1).2.2.2.1)⟩, ⟨9, [], .int .i64 (rcheckg u0)⟩, ⟨10, [], .pointer (some ⟨b111, 0, none⟩)⟩, ⟨11, [], .slice none 0 0⟩, ⟨12, [], .slice none 0 0⟩, ⟨13, [], .slice (some ⟨b132, 0, none⟩) 3 3⟩] a1083 := hF1084.region (by kernel_rfl) (by kernel_rfl); clear hF1084
           refine sqH ?_; intro hQ1093Q hQ1093
           refine s1 hF1092 176 (.pointer (some ⟨b10, 1, none⟩)) ?_; intro a1094 hF1095; clear hF1092
           refine l1 hF1095 hM1053 177 5 1 (.slice ao1 u0.Data.length cap2) rfl rfl ?_; intro a1096 hF1097; clear hF1095
           refine s1 hF1097 178 (.int .i64 (u0.Data.length : Int)) ?_; intro a1098 hF1099; clear hF1097
           refine s1 hF1099 179 (.slice ao4 u1.length cap5) ?_; intro a1100 hF1101; clear hF1099
           refine s1 hF1101 180 (.int .i64 (u1.length : Int)) ?_; intro a1102 hF1103; clear hF1101
           refine s1 hF1103 181 (.int .i64 (w64 ((u0.Data.length : Int) + (u1.length : Int)))) ?_; intro a1104 hF1105; clear hF1103
           refine s1 hF1105 182 (.int .i64 (w64 ((w64 ((u0.Data.length : Int) + (u1.length : Int))) - 1))) ?_; intro a1106 hF1107; clear hF1105
           refine s1 hF1107 183 (.pointer (some ⟨b10, 0, none⟩)) ?_; intro a1108 hF1109; clear hF1107
           refine l1 hF1109 hM1053 184 5 0 (.int .i64 u0.Want) rfl rfl ?_; intro a1110 hF1111; clear hF1109
           refine s1 hF1111 185 (.bool ((w64 ((w64 ((u0.Data.length : Int) + (u1.length : Int))) - 1)) == u0.Want)) ?_; intro a1112 hF1113; clear hF1111
           refine s1 hF1113 175 (.bool ((w64 ((w64 ((u0.Data.length : Int) + (u1.length : Int))) - 1)) == u0.Want)) ?_; intro a1114 hF1115; clear hF1113
           refine nlH (hQ1093 _ _ ?_); clear hQ1093 hQ1093Q
           refine cd hF1115 (t := (w64 ((w64 ((u0.Data.length : Int) + (u1.length : Int))) - 1)) == u0.Want) (by kernel_rfl) (fun hb1116 => ?_) (fun hb1116 => ?_)
           · -- yes
            have hp1117 := hp1091.1 hb1116; clear hp1091
            have hF1118 : Fr 229 [] [⟨1, [], .slice ao4 u1.length cap5⟩, ⟨2, [], .pointer (some ⟨b10, 0, none⟩)⟩, ⟨5, [], .pointer (some ⟨b53, 0, none⟩)⟩, ⟨6, [], .slice ao31 ((pgetS u0 u1).2.1).length cap32⟩, ⟨7, [], .slice ao34 ((pgetS u0 u1).2.2.1).length cap35⟩, ⟨8, [], .int .i64 ((pgetS u0 u1).2.2.2.1)⟩, ⟨9, [], .int .i64 (rcheckg u0)⟩, ⟨10, [], .pointer (some ⟨b111, 0, none⟩)⟩, ⟨11, [], .slice none 0 0⟩] a1114 := hF1115.region (by kernel_rfl) (by kernel_rfl); clear hF1115
            have hcd3_0 := hp1117.1; have hp1153 := hp1117.2; clear hp1117
            have hcd5_0 := hp1153.1; have hp1154 := hp1153.2; clear hp1153
            refine any_invE mixed [[], [0], [], [2], [1, 3], [4], [0, 1, 2, 3, 4, 5]] 7 (fun S a w1 => ∃ (ao1125 : Option Addr) (cap1126 : Nat) (b1131 : Nat) (ao1146 : Option Addr) (cap1147 : Nat) (ud12 : Value) (ud186 : Value) (ud187 : Value) (ud188 : Value) (ud189 : Value) (ud190 : Value) (ud191 : Value) (rh0 : Res) (rh1 : Res) (rh2 : Res) (rh3 : Res) (rh4 : Res) (rh5 : Res) (rh6 : Res) (Z1155 : Fz), Fz.le Z37 Z1155 ∧ Fr 229 [] [⟨1, [], .slice ao4 u1.length cap5⟩, ⟨2, [], .pointer (some ⟨b10, 0, none⟩)⟩, ⟨5, [], .pointer (some ⟨b53, 0, none⟩)⟩, ⟨6, [], .slice ao31 ((pgetS u0 u1).2.1).length cap32⟩, ⟨7, [], .slice ao34 ((pgetS u0 u1).2.2.1).length cap35⟩, ⟨8, [], .int .i64 ((pgetS u0 u1).2.2.2.1)⟩, ⟨9, [], .int .i64 (rcheckg u0)⟩, ⟨10, [], .pointer (some ⟨b111, 0, none⟩)⟩, ⟨11, [], .slice none 0 0⟩, ⟨12, [], ud12⟩, ⟨186, [], ud186⟩, ⟨187, [], ud187⟩, ⟨188, [], ud188⟩, ⟨189, [], ud189⟩, ⟨190, [], ud190⟩, ⟨191, [], ud191⟩] a ∧ Mem w.heap.size [] w Z [rh0, rh1, rh2, rh3, rh4, rh5, rh6] Z1155 w1 ∧ (S 6 = true → ud12 = .slice ao1146 (bconcatS ([u0.Data, u1.drop (1 : Int).toNat] : List (List Int))).length cap1147) ∧ (S 0 = true → ud186 = .pointer (some ⟨b10, 1, none⟩)) ∧ (S 1 = true → ud187 = .slice ao1 u0.Data.length cap2) ∧ (S 2 = true → ud188 = .slice ao4 u1.length cap5) ∧ (S 3 = true → ud189 = .slice ao1125 (u1.drop (1 : Int).toNat).length cap1126) ∧ (S 4 = true → ud190 = .slice (some ⟨b1131, 0, none⟩) 2 2) ∧ (S 5 = true → ud191 = .slice ao1146 (bconcatS ([u0.Data, u1.drop (1 : Int).toNat] : List (List Int))).length cap1147) ∧ (rh0 = .row b132 [.int .u8 48, .int .u8 (w8 u0.Block), .int .u8 0] 5) ∧ (rh1 = .row b111 [.int .i64 0, .slice none 0 0, .int .i64 0, .int .i64 u0.Block, .int .i64 0] 71) ∧ (rh2 = .row b53 [.int .i64 (((pgetS u0 u1).1).Want), .slice ao28 (((pgetS u0 u1).1).Data).length cap29, .int .i64 (((pgetS u0 u1).1).Next), .int .i64 (((pgetS u0 u1).1).Block), .int .i64 (((pgetS u0 u1).1).Left)] 71) ∧ (rh3 = .own (tyInt .u8) 5 ao31 cap32 ((pgetS u0 u1).2.1)) ∧ (rh4 = .own (tyInt .u8) 5 ao34 cap35 ((pgetS u0 u1).2.2.1)) ∧ (rh5 = .row b10 [.int .i64 u0.Want, .slice ao1 u0.Data.length cap2, .int .i64 u0.Next, .int .i64 u0.Block, .int .i64 u0.Left] 71) ∧ (S 4 = false → rh6 = .nil) ∧ (S 4 = true → S 5 = false → rh6 = .row b1131 [.slice ao1 u0.Data.length cap2, .slice ao1125 (u1.drop (1 : Int).toNat).length cap1126] 36) ∧ (S 5 = true → rh6 = .own (tyInt .u8) 5 ao1146 cap1147 (bconcatS ([u0.Data, u1.drop (1 : Int).toNat] : List (List Int)))) ∧ (S 3 = true → SlR (tyInt .u8) Z1155 ao1125 cap1126 (u1.drop (1 : Int).toNat)) ∧ (S 5 = true → SlR (tySl (tyInt .u8)) Z1155 (some ⟨b1131, 0, none⟩) 2 ([u0.Data, u1.drop (1 : Int).toNat] : List (List Int)))) ?h0 ?hs ?hE
            case h0 =>
             have hF1157 := hF1118.any 12
             have hF1158 := hF1157.any 186
             have hF1159 := hF1158.any 187
             have hF1160 := hF1159.any 188
             have hF1161 := hF1160.any 189
             have hF1162 := hF1161.any 190
             have hF1163 := hF1162.any 191
             have hM1164 := hM1053.nilRes
             have hM1165 := (hM1164.perm ((pk 1 rfl).trans (((pk 1 rfl).trans (((pk 1 rfl).trans (((pk 1 rfl).trans (((pk 1 rfl).trans (((pk 1 rfl).trans ((List.Perm.refl _).cons _)).cons _)).cons _)).cons _)).cons _)).cons _))).drew
             exact ⟨none, 0, 0, none, 0, a1114.tmps.getD 12 undef, a1114.tmps.getD 186 undef, a1114.tmps.getD 187 undef, a1114.tmps.getD 188 undef, a1114.tmps.getD 189 undef, a1114.tmps.getD 190 undef, a1114.tmps.getD 191 undef, .row b132 [.int .u8 48, .int .u8 (w8 u0.Block), .int .u8 0] 5, .row b111 [.int .i64 0, .slice none 0 0, .int .i64 0, .int .i64 u0.Block, .int .i64 0] 71, .row b53 [.int .i64 (((pgetS u0 u1).1).Want), .slice ao28 (((pgetS u0 u1).1).Data).length cap29, .int .i64 (((pgetS u0 u1).1).Next), .int .i64 (((pgetS u0 u1).1).Block), .int .i64 (((pgetS u0 u1).1).Left)] 71, .own (tyInt .u8) 5 ao31 cap32 ((pgetS u0 u1).2.1), .own (tyInt .u8) 5 ao34 cap35 ((pgetS u0 u1).2.2.1), .row b10 [.int .i64 u0.Want, .slice ao1 u0.Data.length cap2, .int .i64 u0.Next, .int .i64 u0.Block, .int .i64 u0.Left] 71, .nil, Z37, Fz.le.refl _, hF1163.region (by kernel_rfl) (by kernel_rfl), hM1165, ff, ff, ff, ff, ff, ff, ff, rfl, rfl, rfl, rfl, rfl, rfl, kf, ff, ff, ff, ff⟩
            case hs =>
             intro S hcl i o hil hi hSi hpre a w1 hI; refine hid ?_; intro G hG; obtain ⟨ao1125, hI⟩ := hI; obtain ⟨cap1126, hI⟩ := hI; obtain ⟨b1131, hI⟩ := hI; obtain ⟨ao1146, hI⟩ := hI; obtain ⟨cap1147, hI⟩ := hI; obtain ⟨ud12, hI⟩ := hI; obtain ⟨ud186, hI⟩ := hI; obtain ⟨ud187, hI⟩ := hI; obtain ⟨ud188, hI⟩ := hI; obtain ⟨ud189, hI⟩ := hI; obtain ⟨ud190, hI⟩ := hI; obtain ⟨ud191, hI⟩ := hI; obtain ⟨rh0, hI⟩ := hI; obtain ⟨rh1, hI⟩ := hI; obtain ⟨rh2, hI⟩ := hI; obtain ⟨rh3, hI⟩ := hI; obtain ⟨rh4, hI⟩ := hI; obtain ⟨rh5, hI⟩ := hI; obtain ⟨rh6, hI⟩ := hI; obtain ⟨Z1155, hI⟩ := hI; obtain ⟨hle1156, hI⟩ := hI; obtain ⟨hFx, hI⟩ := hI; obtain ⟨hMx, hI⟩ := hI; obtain ⟨cu12, hI⟩ := hI; obtain ⟨cu186, hI⟩ := hI; obtain ⟨cu187, hI⟩ := hI; obtain ⟨cu188, hI⟩ := hI; obtain ⟨cu189, hI⟩ := hI; obtain ⟨cu190, hI⟩ := hI; obtain ⟨cu191, hI⟩ := hI; obtain ⟨cr0_0, hI⟩ := hI; obtain ⟨cr1_0, hI⟩ := hI; obtain ⟨cr2_0, hI⟩ := hI; obtain ⟨cr3_0, hI⟩ := hI; obtain ⟨cr4_0, hI⟩ := hI; obtain ⟨cr5_0, hI⟩ := hI; obtain ⟨cr6_0, hI⟩ := hI; obtain ⟨cr6_1, hI⟩ := hI; obtain ⟨cr6_2, hI⟩ := hI; obtain ⟨cf0, hI⟩ := hI; have cf1 := hI; clear hI
             have hcase : i = 0 ∨ i = 1 ∨ i = 2 ∨ i = 3 ∨ i = 4 ∨ i = 5 ∨ i = 6 := by clear hi; omega
             rcases hcase with rfl | rfl | rfl | rfl | rfl | rfl | rfl
             · -- 0: fieldAddr
              obtain rfl := Option.some.inj hi
              have hx0 := hSi
              have hx1 := negF hcl 1 0 (by kernel_rfl) hx0
              have hx4 := negF hcl 4 1 (by kernel_rfl) hx1
              have hx5 := negF hcl 5 4 (by kernel_rfl) hx4
              have hx6 := negF hcl 6 0 (by kernel_rfl) hx0
              obtain rfl := cr0_0
              obtain rfl := cr1_0
              obtain rfl := cr2_0
              obtain rfl := cr3_0
              obtain rfl := cr4_0
              obtain rfl := cr5_0
              obtain rfl := cr6_0 hx4
              refine hG (any_step ?_); clear hG G; intro A J hJ
              have hle0 := Fz.le.trans hle0 hle1156
              have hzst := Fz.le.refl Z1155
              have hs1166 := hs3.mono hle1156
              have hs1167 := hs6.mono hle1156
              have hs1168 := hs30.mono hle1156
              have hs1169 := hle264.mono hle1156
              have hs1170 := hP315.mono hle1156
              have hs1171 := hP500.mono hle1156
              have hs1172 := hP984.mono hle1156
              have hs1173 := hP1026.mono hle1156
              have hM1174 := hMx.keep (List.Sublist.cons_cons _ (List.Sublist.cons_cons _ (List.Sublist.cons_cons _ (List.Sublist.cons_cons _ (List.Sublist.cons_cons _ (List.Sublist.cons_cons _ (List.Sublist.cons _ (List.Sublist.slnil)))))))); clear hMx
              refine s1 hFx 186 (.pointer (some ⟨b10, 1, none⟩)) ?_; intro a1175 hF1176; clear hFx
              refine nl (qnI (hJ _ _ ?_)); clear hJ J
              have hM1177 := hM1174.nilRes
              exact ⟨ao1125, cap1126, b1131, ao1146, cap1147, ud12, .pointer (some ⟨b10, 1, none⟩), ud187, ud188, ud189, ud190, ud191, .row b132 [.int .u8 48, .int .u8 (w8 u0.Block), .int .u8 0] 5, .row b111 [.int .i64 0, .slice none 0 0, .int .i64 0, .int .i64 u0.Block, .int .i64 0] 71, .row b53 [.int .i64 (((pgetS u0 u1).1).Want), .slice ao28 (((pgetS u0 u1).1).Data).length cap29, .int .i64 (((pgetS u0 u1).1).Next), .int .i64 (((pgetS u0 u1).1).Block), .int .i64 (((pgetS u0 u1).1).Left)] 71, .own (tyInt .u8) 5 ao31 cap32 ((pgetS u0 u1).2.1), .own (tyInt .u8) 5 ao34 cap35 ((pgetS u0 u1).2.2.1), .row b10 [.int .i64 u0.Want, .slice ao1 u0.Data.length cap2, .int .i64 u0.Next, .int .i64 u0.Block, .int .i64 u0.Left] 71, .nil, Z1155, hle1156, hF1176.region (by kernel_rfl) (by kernel_rfl), hM1177.perm ((pk 1 rfl).trans (((pk 1 rfl).trans (((pk 1 rfl).trans (((pk 1 rfl).trans (((pk 1 rfl).trans (((pk 1 rfl).trans ((List.Perm.refl _).cons _)).cons _)).cons _)).cons _)).cons _)).cons _)), (nt hx6), kf, (nt hx1), cu188, cu189, (nt hx4), (nt hx5), rfl, rfl, rfl, rfl, rfl, rfl, kf, (fun h _ => nt hx4 h), (nt hx5), cf0, (nt hx5)⟩
             · -- 1: load
              obtain rfl := Option.some.inj hi
              have hx0 := hpre 0 (by kernel_rfl)
              have hx1 := hSi
              have hx4 := negF hcl 4 1 (by kernel_rfl) hx1
              have hx5 := negF hcl 5 4 (by kernel_rfl) hx4
              have hx6 := negF hcl 6 1 (by kernel_rfl) hx1
              obtain rfl := cu186 hx0
              obtain rfl := cr0_0
              obtain rfl := cr1_0
              obtain rfl := cr2_0
              obtain rfl := cr3_0
              obtain rfl := cr4_0
              obtain rfl := cr5_0
              obtain rfl := cr6_0 hx4
              refine hG (any_step ?_); clear hG G; intro A J hJ
              have hle0 := Fz.le.trans hle0 hle1156
              have hzst := Fz.le.refl Z1155
              have hs1179 := hs3.mono hle1156
              have hs1180 := hs6.mono hle1156
              have hs1181 := hs30.mono hle1156
              have hs1182 := hle264.mono hle1156
              have hs1183 := hP315.mono hle1156
              have hs1184 := hP500.mono hle1156
              have hs1185 := hP984.mono hle1156
              have hs1186 := hP1026.mono hle1156
              have hM1187 := hMx.keep (List.Sublist.cons_cons _ (List.Sublist.cons_cons _ (List.Sublist.cons_cons _ (List.Sublist.cons_cons _ (List.Sublist.cons_cons _ (List.Sublist.cons_cons _ (List.Sublist.cons _ (List.Sublist.slnil)))))))); clear hMx
              refine l1 hFx hM1187 187 5 1 (.slice ao1 u0.Data.length cap2) rfl rfl ?_; intro a1188 hF1189; clear hFx
              refine nl (qnI (hJ _ _ ?_)); clear hJ J
              have hM1190 := hM1187.nilRes
              exact ⟨ao1125, cap1126, b1131, ao1146, cap1147, ud12, .pointer (some ⟨b10, 1, none⟩), .slice ao1 u0.Data.length cap2, ud188, ud189, ud190, ud191, .row b132 [.int .u8 48, .int .u8 (w8 u0.Block), .int .u8 0] 5, .row b111 [.int .i64 0, .slice none 0 0, .int .i64 0, .int .i64 u0.Block, .int .i64 0] 71, .row b53 [.int .i64 (((pgetS u0 u1).1).Want), .slice ao28 (((pgetS u0 u1).1).Data).length cap29, .int .i64 (((pgetS u0 u1).1).Next), .int .i64 (((pgetS u0 u1).1).Block), .int .i64 (((pgetS u0 u1).1).Left)] 71, .own (tyInt .u8) 5 ao31 cap32 ((pgetS u0 u1).2.1), .own (tyInt .u8) 5 ao34 cap35 ((pgetS u0 u1).2.2.1), .row b10 [.int .i64 u0.Want, .slice ao1 u0.Data.length cap2, .int .i64 u0.Next, .int .i64 u0.Block, .int .i64 u0.Left] 71, .nil, Z1155, hle1156, hF1189.region (by kernel_rfl) (by kernel_rfl), hM1190.perm ((pk 1 rfl).trans (((pk 1 rfl).trans (((pk 1 rfl).trans (((pk 1 rfl).trans (((pk 1 rfl).trans (((pk 1 rfl).trans ((List.Perm.refl _).cons _)).cons _)).cons _)).cons _)).cons _)).cons _)), (nt hx6), kf, kf, cu188, cu189, (nt hx4), (nt hx5), rfl, rfl, rfl, rfl, rfl, rfl, kf, (fun h _ => nt hx4 h), (nt hx5), cf0, (nt hx5)⟩
             · -- 2: move
              obtain rfl := Option.some.inj hi
              have hx2 := hSi
              have hx3 := negF hcl 3 2 (by kernel_rfl) hx2
              have hx4 := negF hcl 4 3 (by kernel_rfl) hx3
              have hx5 := negF hcl 5 4 (by kernel_rfl) hx4
              have hx6 := negF hcl 6 2 (by kernel_rfl) hx2
              obtain rfl := cr0_0
              obtain rfl := cr1_0
              obtain rfl := cr2_0
              obtain rfl := cr3_0
              obtain rfl := cr4_0
              obtain rfl := cr5_0
              obtain rfl := cr6_0 hx4
              refine hG (any_step ?_); clear hG G; intro A J hJ
              have hle0 := Fz.le.trans hle0 hle1156
              have hzst := Fz.le.refl Z1155
              have hs1192 := hs3.mono hle1156
              have hs1193 := hs6.mono hle1156
              have hs1194 := hs30.mono hle1156
              have hs1195 := hle264.mono hle1156
              have hs1196 := hP315.mono hle1156
              have hs1197 := hP500.mono hle1156
              have hs1198 := hP984.mono hle1156
              have hs1199 := hP1026.mono hle1156
              have hM1200 := hMx.keep (List.Sublist.cons_cons _ (List.Sublist.cons_cons _ (List.Sublist.cons_cons _ (List.Sublist.cons_cons _ (List.Sublist.cons_cons _ (List.Sublist.cons_cons _ (List.Sublist.cons _ (List.Sublist.slnil)))))))); clear hMx
              refine s1 hFx 188 (.slice ao4 u1.length cap5) ?_; intro a1201 hF1202; clear hFx
              refine nl (qnI (hJ _ _ ?_)); clear hJ J
              have hM1203 := hM1200.nilRes
              exact ⟨ao1125, cap1126, b1131, ao1146, cap1147, ud12, ud186, ud187, .slice ao4 u1.length cap5, ud189, ud190, ud191, .row b132 [.int .u8 48, .int .u8 (w8 u0.Block), .int .u8 0] 5, .row b111 [.int .i64 0, .slice none 0 0, .int .i64 0, .int .i64 u0.Block, .int .i64 0] 71, .row b53 [.int .i64 (((pgetS u0 u1).1).Want), .slice ao28 (((pgetS u0 u1).1).Data).length cap29, .int .i64 (((pgetS u0 u1).1).Next), .int .i64 (((pgetS u0 u1).1).Block), .int .i64 (((pgetS u0 u1).1).Left)] 71, .own (tyInt .u8) 5 ao31 cap32 ((pgetS u0 u1).2.1), .own (tyInt .u8) 5 ao34 cap35 ((pgetS u0 u1).2.2.1), .row b10 [.int .i64 u0.Want, .slice ao1 u0.Data.length cap2, .int .i64 u0.Next, .int .i64 u0.Block, .int .i64 u0.Left] 71, .nil, Z1155, hle1156, hF1202.region (by kernel_rfl) (by kernel_rfl), hM1203.perm ((pk 1 rfl).trans (((pk 1 rfl).trans (((pk 1 rfl).trans (((pk 1 rfl).trans (((pk 1 rfl).trans (((pk 1 rfl).trans ((List.Perm.refl _).cons _)).cons _)).cons _)).cons _)).cons _)).cons _)), (nt hx6), cu186, cu187, kf, (nt hx3), (nt hx4), (nt hx5), rfl, rfl, rfl, rfl, rfl, rfl, kf, (fun h _ => nt hx4 h), (nt hx5), (nt hx3), (nt hx5)⟩
             · -- 3: slice
              obtain rfl := Option.some.inj hi
              have hx2 := hpre 2 (by kernel_rfl)
              have hx3 := hSi
              have hx4 := negF hcl 4 3 (by kernel_rfl) hx3
              have hx5 := negF hcl 5 4 (by kernel_rfl) hx4
              have hx6 := negF hcl 6 3 (by kernel_rfl) hx3
              obtain rfl := cu188 hx2
              obtain rfl := cr0_0
              obtain rfl := cr1_0
              obtain rfl := cr2_0
              obtain rfl := cr3_0
              obtain rfl := cr4_0
              obtain rfl := cr5_0
              obtain rfl := cr6_0 hx4
              refine hG (any_step ?_); clear hG G; intro A J hJ
              have hle0 := Fz.le.trans hle0 hle1156
              have hzst := Fz.le.refl Z1155
              have hs1205 := hs3.mono hle1156
              have hs1206 := hs6.mono hle1156
              have hs1207 := hs30.mono hle1156
              have hs1208 := hle264.mono hle1156
              have hs1209 := hP315.mono hle1156
              have hs1210 := hP500.mono hle1156
              have hs1211 := hP984.mono hle1156
              have hs1212 := hP1026.mono hle1156
              have hM1213 := hMx.keep (List.Sublist.cons_cons _ (List.Sublist.cons_cons _ (List.Sublist.cons_cons _ (List.Sublist.cons_cons _ (List.Sublist.cons_cons _ (List.Sublist.cons_cons _ (List.Sublist.cons _ (List.Sublist.slnil)))))))); clear hMx
              refine slL hFx (T := (tyInt .u8)) (xs := u1) hs1206 (1 : Int) hcd3_0 (k := .i64) (e := 5) (bytes := 1) (nog rfl _) rfl (by kernel_rfl) rfl (by kernel_rfl) (by kernel_rfl) (by kernel_rfl) ?_; intro ao1214 cap1215 a1218 hn1216 hs1217 hF1219; clear hFx
              refine nl (qnI (hJ _ _ ?_)); clear hJ J
              have hM1220 := hM1213.nilRes
              exact ⟨ao1214, cap1215, b1131, ao1146, cap1147, ud12, ud186, ud187, .slice ao4 u1.length cap5, .slice ao1214 (u1.drop (1 : Int).toNat).length cap1215, ud190, ud191, .row b132 [.int .u8 48, .int .u8 (w8 u0.Block), .int .u8 0] 5, .row b111 [.int .i64 0, .slice none 0 0, .int .i64 0, .int .i64 u0.Block, .int .i64 0] 71, .row b53 [.int .i64 (((pgetS u0 u1).1).Want), .slice ao28 (((pgetS u0 u1).1).Data).length cap29, .int .i64 (((pgetS u0 u1).1).Next), .int .i64 (((pgetS u0 u1).1).Block), .int .i64 (((pgetS u0 u1).1).Left)] 71, .own (tyInt .u8) 5 ao31 cap32 ((pgetS u0 u1).2.1), .own (tyInt .u8) 5 ao34 cap35 ((pgetS u0 u1).2.2.1), .row b10 [.int .i64 u0.Want, .slice ao1 u0.Data.length cap2, .int .i64 u0.Next, .int .i64 u0.Block, .int .i64 u0.Left] 71, .nil, Z1155, hle1156, hF1219.region (by kernel_rfl) (by kernel_rfl), hM1220.perm ((pk 1 rfl).trans (((pk 1 rfl).trans (((pk 1 rfl).trans (((pk 1 rfl).trans (((pk 1 rfl).trans (((pk 1 rfl).trans ((List.Perm.refl _).cons _)).cons _)).cons _)).cons _)).cons _)).cons _)), (nt hx6), cu186, cu187, kf, kf, (nt hx4), (nt hx5), rfl, rfl, rfl, rfl, rfl, rfl, kf, (fun h _ => nt hx4 h), (nt hx5), (fun _ => hs1217), (nt hx5)⟩
             · -- 4: buildSlice
              obtain rfl := Option.some.inj hi
              have hx3 := hpre 3 (by kernel_rfl)
              have hx1 := hpre 1 (by kernel_rfl)
              have hx2 := hcl 3 2 (by kernel_rfl) hx3
              have hx0 := hcl 1 0 (by kernel_rfl) hx1
              have hx4 := hSi
              have hx5 := negF hcl 5 4 (by kernel_rfl) hx4
              have hx6 := negF hcl 6 4 (by kernel_rfl) hx4
              obtain rfl := cu186 hx0
              obtain rfl := cu187 hx1
              obtain rfl := cu188 hx2
              obtain rfl := cu189 hx3
              obtain rfl := cr0_0
              obtain rfl := cr1_0
              obtain rfl := cr2_0
              obtain rfl := cr3_0
              obtain rfl := cr4_0
              obtain rfl := cr5_0
              obtain rfl := cr6_0 hx4
              refine hG (any_step ?_); clear hG G; intro A J hJ
              have hle0 := Fz.le.trans hle0 hle1156
              have hzst := Fz.le.refl Z1155
              have hs1222 := hs3.mono hle1156
              have hs1223 := hs6.mono hle1156
              have hs1224 := hs30.mono hle1156
              have hs1225 := hle264.mono hle1156
              have hs1226 := hP315.mono hle1156
              have hs1227 := hP500.mono hle1156
              have hs1228 := hP984.mono hle1156
              have hs1229 := hP1026.mono hle1156
              have hs1230 := cf0 hx3
              have hM1231 := hMx.keep (List.Sublist.cons_cons _ (List.Sublist.cons_cons _ (List.Sublist.cons_cons _ (List.Sublist.cons_cons _ (List.Sublist.cons_cons _ (List.Sublist.cons_cons _ (List.Sublist.cons _ (List.Sublist.slnil)))))))); clear hMx
              refine sn hFx hM1231 (fun b => .slice (some ⟨b, 0, none⟩) 2 2) [.slice ao1 u0.Data.length cap2, .slice ao1125 (u1.drop (1 : Int).toNat).length cap1126] 36 (nog rfl _) rfl (by kernel_rfl) (by kernel_rfl) ?_; intro b1232 a1233 wd1235 hF1234 hM1236; clear hFx hM1231
              refine nl (qnI (hJ _ _ ?_)); clear hJ J
              exact ⟨ao1125, cap1126, b1232, ao1146, cap1147, ud12, .pointer (some ⟨b10, 1, none⟩), .slice ao1 u0.Data.length cap2, .slice ao4 u1.length cap5, .slice ao1125 (u1.drop (1 : Int).toNat).length cap1126, .slice (some ⟨b1232, 0, none⟩) 2 2, ud191, .row b132 [.int .u8 48, .int .u8 (w8 u0.Block), .int .u8 0] 5, .row b111 [.int .i64 0, .slice none 0 0, .int .i64 0, .int .i64 u0.Block, .int .i64 0] 71, .row b53 [.int .i64 (((pgetS u0 u1).1).Want), .slice ao28 (((pgetS u0 u1).1).Data).length cap29, .int .i64 (((pgetS u0 u1).1).Next), .int .i64 (((pgetS u0 u1).1).Block), .int .i64 (((pgetS u0 u1).1).Left)] 71, .own (tyInt .u8) 5 ao31 cap32 ((pgetS u0 u1).2.1), .own (tyInt .u8) 5 ao34 cap35 ((pgetS u0 u1).2.2.1), .row b10 [.int .i64 u0.Want, .slice ao1 u0.Data.length cap2, .int .i64 u0.Next, .int .i64 u0.Block, .int .i64 u0.Left] 71, .row b1232 [.slice ao1 u0.Data.length cap2, .slice ao1125 (u1.drop (1 : Int).toNat).length cap1126] 36, Z1155, hle1156, hF1234.region (by kernel_rfl) (by kernel_rfl), hM1236.perm ((pk 1 rfl).trans (((pk 1 rfl).trans (((pk 1 rfl).trans (((pk 1 rfl).trans (((pk 1 rfl).trans (((pk 1 rfl).trans ((List.Perm.refl _).cons _)).cons _)).cons _)).cons _)).cons _)).cons _)), (nt hx6), kf, kf, kf, kf, kf, (nt hx5), rfl, rfl, rfl, rfl, rfl, rfl, nu, kf2, (nt hx5), (fun _ => hs1230), (nt hx5)⟩
             · -- 5: call
              obtain rfl := Option.some.inj hi
              have hx4 := hpre 4 (by kernel_rfl)
              have hx3 := hcl 4 3 (by kernel_rfl) hx4
              have hx1 := hcl 4 1 (by kernel_rfl) hx4
              have hx2 := hcl 3 2 (by kernel_rfl) hx3
              have hx0 := hcl 1 0 (by kernel_rfl) hx1
              have hx5 := hSi
              have hx6 := negF hcl 6 5 (by kernel_rfl) hx5
              obtain rfl := cu186 hx0
              obtain rfl := cu187 hx1
              obtain rfl := cu188 hx2
              obtain rfl := cu189 hx3
              obtain rfl := cu190 hx4
              obtain rfl := cr0_0
              obtain rfl := cr1_0
              obtain rfl := cr2_0
              obtain rfl := cr3_0
              obtain rfl := cr4_0
              obtain rfl := cr5_0
              obtain rfl := cr6_1 hx4 hx5
              refine hG (any_step ?_); clear hG G; intro A J hJ
              have hle0 := Fz.le.trans hle0 hle1156
              have hzst := Fz.le.refl Z1155
              have hs1238 := hs3.mono hle1156
              have hs1239 := hs6.mono hle1156
              have hs1240 := hs30.mono hle1156
              have hs1241 := hle264.mono hle1156
              have hs1242 := hP315.mono hle1156
              have hs1243 := hP500.mono hle1156
              have hs1244 := hP984.mono hle1156
              have hs1245 := hP1026.mono hle1156
              have hs1246 := cf0 hx3
              have hM1247 : Mem w.heap.size [] w Z [.row b132 [.int .u8 48, .int .u8 (w8 u0.Block), .int .u8 0] 5, .row b111 [.int .i64 0, .slice none 0 0, .int .i64 0, .int .i64 u0.Block, .int .i64 0] 71, .row b53 [.int .i64 (((pgetS u0 u1).1).Want), .slice ao28 (((pgetS u0 u1).1).Data).length cap29, .int .i64 (((pgetS u0 u1).1).Next), .int .i64 (((pgetS u0 u1).1).Block), .int .i64 (((pgetS u0 u1).1).Left)] 71, .own (tyInt .u8) 5 ao31 cap32 ((pgetS u0 u1).2.1), .own (tyInt .u8) 5 ao34 cap35 ((pgetS u0 u1).2.2.1), .row b10 [.int .i64 u0.Want, .slice ao1 u0.Data.length cap2, .int .i64 u0.Next, .int .i64 u0.Block, .int .i64 u0.Left] 71, .own (tySl (tyInt .u8)) 36 (some ⟨b1131, 0, none⟩) 2 ([u0.Data, u1.drop (1 : Int).toNat] : List (List Int))] Z1155 w1 := hMx.rowOwn (T := (tySl (tyInt .u8))) (xs := ([u0.Data, u1.drop (1 : Int).toNat] : List (List Int))) 6 rfl (by decide) (by show 2 ≤ lim; decide) ((RepAll.one (T := (tySl (tyInt .u8))) (x := u0.Data) ⟨ao1, cap2, rfl, hs1238⟩).append (RepAll.one (T := (tySl (tyInt .u8))) (x := u1.drop (1 : Int).toNat) ⟨ao1125, cap1126, rfl, hs1246⟩)); clear hMx
              obtain ⟨Z1248, hle1249, hM1250, hs1251⟩ := hM1247.freeze 6 rfl
              replace hzst := hzst.mono hle1249
              replace hs1238 := hs1238.mono hle1249
              replace hs1239 := hs1239.mono hle1249
              replace hs1240 := hs1240.mono hle1249
              replace hs1241 := hs1241.mono hle1249
              replace hs1242 := hs1242.mono hle1249
              replace hs1243 := hs1243.mono hle1249
              replace hs1244 := hs1244.mono hle1249
              replace hs1245 := hs1245.mono hle1249
              replace hs1246 := hs1246.mono hle1249
              replace hle0 := Fz.le.trans hle0 hle1249
              have hM1252 : Mem w.heap.size [] w Z [.row b132 [.int .u8 48, .int .u8 (w8 u0.Block), .int .u8 0] 5, .row b111 [.int .i64 0, .slice none 0 0, .int .i64 0, .int .i64 u0.Block, .int .i64 0] 71, .row b53 [.int .i64 (((pgetS u0 u1).1).Want), .slice ao28 (((pgetS u0 u1).1).Data).length cap29, .int .i64 (((pgetS u0 u1).1).Next), .int .i64 (((pgetS u0 u1).1).Block), .int .i64 (((pgetS u0 u1).1).Left)] 71, .own (tyInt .u8) 5 ao31 cap32 ((pgetS u0 u1).2.1), .own (tyInt .u8) 5 ao34 cap35 ((pgetS u0 u1).2.2.1), .row b10 [.int .i64 u0.Want, .slice ao1 u0.Data.length cap2, .int .i64 u0.Next, .int .i64 u0.Block, .int .i64 u0.Left] 71] Z1248 w1 := hM1250; clear hM1250
              refine cl hFx 46 #[.slice (some ⟨b1131, 0, none⟩) ([u0.Data, u1.drop (1 : Int).toNat] : List (List Int)).length 2] (nog rfl _) rfl (by kernel_rfl) (by kernel_rfl) ?_
              refine (bconcat_fun ([u0.Data, u1.drop (1 : Int).toNat] : List (List Int)) hcd5_0 (some ⟨b1131, 0, none⟩) 2 _ _ hs1251 hM1252.fz).mono ?_; rintro _ wd1253 ⟨ao1257, cap1258, Z1259, rfl, hm⟩; refine ⟨_, rfl, ?_⟩; intro a1254 hF1255; have hM1256 := hM1252.callZ hm; have hle1260 := hm.ext.le; clear hm hM1252 hFx
              replace hzst := hzst.mono hle1260
              replace hs1238 := hs1238.mono hle1260
              replace hs1239 := hs1239.mono hle1260
              replace hs1240 := hs1240.mono hle1260
              replace hs1241 := hs1241.mono hle1260
              replace hs1242 := hs1242.mono hle1260
              replace hs1243 := hs1243.mono hle1260
              replace hs1244 := hs1244.mono hle1260
              replace hs1245 := hs1245.mono hle1260
              replace hs1246 := hs1246.mono hle1260
              replace hs1251 := hs1251.mono hle1260
              replace hle0 := Fz.le.trans hle0 hle1260
              have hM1261 : Mem w.heap.size [] w Z [.own (tyInt .u8) 5 ao1257 cap1258 (bconcatS ([u0.Data, u1.drop (1 : Int).toNat] : List (List Int))), .row b132 [.int .u8 48, .int .u8 (w8 u0.Block), .int .u8 0] 5, .row b111 [.int .i64 0, .slice none 0 0, .int .i64 0, .int .i64 u0.Block, .int .i64 0] 71, .row b53 [.int .i64 (((pgetS u0 u1).1).Want), .slice ao28 (((pgetS u0 u1).1).Data).length cap29, .int .i64 (((pgetS u0 u1).1).Next), .int .i64 (((pgetS u0 u1).1).Block), .int .i64 (((pgetS u0 u1).1).Left)] 71, .own (tyInt .u8) 5 ao31 cap32 ((pgetS u0 u1).2.1), .own (tyInt .u8) 5 ao34 cap35 ((pgetS u0 u1).2.2.1), .row b10 [.int .i64 u0.Want, .slice ao1 u0.Data.length cap2, .int .i64 u0.Next, .int .i64 u0.Block, .int .i64 u0.Left] 71] Z1259 wd1253 := hM1256; clear hM1256
              refine nl (qnI (hJ _ _ ?_)); clear hJ J
              exact ⟨ao1125, cap1126, b1131, ao1257, cap1258, ud12, .pointer (some ⟨b10, 1, none⟩), .slice ao1 u0.Data.length cap2, .slice ao4 u1.length cap5, .slice ao1125 (u1.drop (1 : Int).toNat).length cap1126, .slice (some ⟨b1131, 0, none⟩) 2 2, .slice ao1257 (bconcatS ([u0.Data, u1.drop (1 : Int).toNat] : List (List Int))).length cap1258, .row b132 [.int .u8 48, .int .u8 (w8 u0.Block), .int .u8 0] 5, .row b111 [.int .i64 0, .slice none 0 0, .int .i64 0, .int .i64 u0.Block, .int .i64 0] 71, .row b53 [.int .i64 (((pgetS u0 u1).1).Want), .slice ao28 (((pgetS u0 u1).1).Data).length cap29, .int .i64 (((pgetS u0 u1).1).Next), .int .i64 (((pgetS u0 u1).1).Block), .int .i64 (((pgetS u0 u1).1).Left)] 71, .own (tyInt .u8) 5 ao31 cap32 ((pgetS u0 u1).2.1), .own (tyInt .u8) 5 ao34 cap35 ((pgetS u0 u1).2.2.1), .row b10 [.int .i64 u0.Want, .slice ao1 u0.Data.length cap2, .int .i64 u0.Next, .int .i64 u0.Block, .int .i64 u0.Left] 71, .own (tyInt .u8) 5 ao1257 cap1258 (bconcatS ([u0.Data, u1.drop (1 : Int).toNat] : List (List Int))), Z1259, hle1156.trans hzst, hF1255.region (by kernel_rfl) (by kernel_rfl), hM1261.perm ((pk 1 rfl).trans (((pk 1 rfl).trans (((pk 1 rfl).trans (((pk 1 rfl).trans (((pk 1 rfl).trans (((pk 1 rfl).trans ((List.Perm.refl _).cons _)).cons _)).cons _)).cons _)).cons _)).cons _)), (nt hx6), kf, kf, kf, kf, kf, kf, rfl, rfl, rfl, rfl, rfl, rfl, (tn hx4), (fun _ => nu), kf, (fun _ => hs1246), (fun _ => hs1251)⟩
             · -- 6: assign
              obtain rfl := Option.some.inj hi
              have hx5 := hpre 5 (by kernel_rfl)
              have hx4 := hpre 4 (by kernel_rfl)
              have hx3 := hpre 3 (by kernel_rfl)
              have hx2 := hpre 2 (by kernel_rfl)
              have hx1 := hpre 1 (by kernel_rfl)
              have hx0 := hpre 0 (by kernel_rfl)
              have hx6 := hSi
              obtain rfl := cu186 hx0
              obtain rfl := cu187 hx1
              obtain rfl := cu188 hx2
              obtain rfl := cu189 hx3
              obtain rfl := cu190 hx4
              obtain rfl := cu191 hx5
              obtain rfl := cr0_0
              obtain rfl := cr1_0
              obtain rfl := cr2_0
              obtain rfl := cr3_0
              obtain rfl := cr4_0
              obtain rfl := cr5_0
              obtain rfl := cr6_2 hx5
              refine hG (any_step ?_); clear hG G; intro A J hJ
              have hle0 := Fz.le.trans hle0 hle1156
              have hzst := Fz.le.refl Z1155
              have hs1263 := hs3.mono hle1156
              have hs1264 := hs6.mono hle1156
              have hs1265 := hs30.mono hle1156
              have hs1266 := hle264.mono hle1156
              have hs1267 := hP315.mono hle1156
              have hs1268 := hP500.mono hle1156
              have hs1269 := hP984.mono hle1156
              have hs1270 := hP1026.mono hle1156
              have hs1271 := cf0 hx3
              have hs1272 := cf1 hx5
              refine s1 hFx 12 (.slice ao1146 (bconcatS ([u0.Data, u1.drop (1 : Int).toNat] : List (List Int))).length cap1147) ?_; intro a1273 hF1274; clear hFx
              refine nl (qnI (hJ _ _ ?_)); clear hJ J
              exact ⟨ao1125, cap1126, b1131, ao1146, cap1147, .slice ao1146 (bconcatS ([u0.Data, u1.drop (1 : Int).toNat] : List (List Int))).length cap1147, .pointer (some ⟨b10, 1, none⟩), .slice ao1 u0.Data.length cap2, .slice ao4 u1.length cap5, .slice ao1125 (u1.drop (1 : Int).toNat).length cap1126, .slice (some ⟨b1131, 0, none⟩) 2 2, .slice ao1146 (bconcatS ([u0.Data, u1.drop (1 : Int).toNat] : List (List Int))).length cap1147, .row b132 [.int .u8 48, .int .u8 (w8 u0.Block), .int .u8 0] 5, .row b111 [.int .i64 0, .slice none 0 0, .int .i64 0, .int .i64 u0.Block, .int .i64 0] 71, .row b53 [.int .i64 (((pgetS u0 u1).1).Want), .slice ao28 (((pgetS u0 u1).1).Data).length cap29, .int .i64 (((pgetS u0 u1).1).Next), .int .i64 (((pgetS u0 u1).1).Block), .int .i64 (((pgetS u0 u1).1).Left)] 71, .own (tyInt .u8) 5 ao31 cap32 ((pgetS u0 u1).2.1), .own (tyInt .u8) 5 ao34 cap35 ((pgetS u0 u1).2.2.1), .row b10 [.int .i64 u0.Want, .slice ao1 u0.Data.length cap2, .int .i64 u0.Next, .int .i64 u0.Block, .int .i64 u0.Left] 71, .own (tyInt .u8) 5 ao1146 cap1147 (bconcatS ([u0.Data, u1.drop (1 : Int).toNat] : List (List Int))), Z1155, hle1156, hF1274.region (by kernel_rfl) (by kernel_rfl), hMx.perm (List.Perm.refl _), kf, kf, kf, kf, kf, kf, kf, rfl, rfl, rfl, rfl, rfl, rfl, (tn hx4), (fun _ => tn hx5), kf, (fun _ => hs1271), (fun _ => hs1272)⟩
            case hE =>
             intro S hS a1276 wd1277 hI; refine hid ?_; intro G hG; obtain ⟨ao1125, hI⟩ := hI; obtain ⟨cap1126, hI⟩ := hI; obtain ⟨b1131, hI⟩ := hI; obtain ⟨ao1146, hI⟩ := hI; obtain ⟨cap1147, hI⟩ := hI; obtain ⟨ud12, hI⟩ := hI; obtain ⟨ud186, hI⟩ := hI; obtain ⟨ud187, hI⟩ := hI; obtain ⟨ud188, hI⟩ := hI; obtain ⟨ud189, hI⟩ := hI; obtain ⟨ud190, hI⟩ := hI; obtain ⟨ud191, hI⟩ := hI; obtain ⟨rh0, hI⟩ := hI; obtain ⟨rh1, hI⟩ := hI; obtain ⟨rh2, hI⟩ := hI; obtain ⟨rh3, hI⟩ := hI; obtain ⟨rh4, hI⟩ := hI; obtain ⟨rh5, hI⟩ := hI; obtain ⟨rh6, hI⟩ := hI; obtain ⟨Z1155, hI⟩ := hI; obtain ⟨hle1156, hI⟩ := hI; obtain ⟨hFx, hI⟩ := hI; obtain ⟨hMx, hI⟩ := hI; obtain ⟨cu12, hI⟩ := hI; obtain ⟨cu186, hI⟩ := hI; obtain ⟨cu187, hI⟩ := hI; obtain ⟨cu188, hI⟩ := hI; obtain ⟨cu189, hI⟩ := hI; obtain ⟨cu190, hI⟩ := hI; obtain ⟨cu191, hI⟩ := hI; obtain ⟨cr0_0, hI⟩ := hI; obtain ⟨cr1_0, hI⟩ := hI; obtain ⟨cr2_0, hI⟩ := hI; obtain ⟨cr3_0, hI⟩ := hI; obtain ⟨cr4_0, hI⟩ := hI; obtain ⟨cr5_0, hI⟩ := hI; obtain ⟨cr6_0, hI⟩ := hI; obtain ⟨cr6_1, hI⟩ := hI; obtain ⟨cr6_2, hI⟩ := hI; obtain ⟨cf0, hI⟩ := hI; have cf1 := hI; clear hI; refine hG ?_; clear hG G
             obtain rfl := cu12 (hS 6 (by decide))
             obtain rfl := cu186 (hS 0 (by decide))
             obtain rfl := cu187 (hS 1 (by decide))
             obtain rfl := cu188 (hS 2 (by decide))
             obtain rfl := cu189 (hS 3 (by decide))
             obtain rfl := cu190 (hS 4 (by decide))
             obtain rfl := cu191 (hS 5 (by decide))
             obtain rfl := cr0_0
             obtain rfl := cr1_0
             obtain rfl := cr2_0
             obtain rfl := cr3_0
             obtain rfl := cr4_0
             obtain rfl := cr5_0
             obtain rfl := cr6_2 (hS 5 (by decide))
             have hle0 := Fz.le.trans hle0 hle1156
             have hs1278 := hs3.mono hle1156
             have hs1279 := hs6.mono hle1156
             have hs1280 := hs30.mono hle1156
             have hs1281 := hle264.mono hle1156
             have hs1282 := hP315.mono hle1156
             have hs1283 := hP500.mono hle1156
             have hs1284 := hP984.mono hle1156
             have hs1285 := hP1026.mono hle1156
             have hs1286 := cf0 (hS 3 (by decide))
             have hs1287 := cf1 (hS 5 (by decide))
             refine ibn ?_
             refine ibn ?_
             refine rd ?_
             obtain ⟨Z1288, hle1289, hM1290, hs1291⟩ := hMx.freeze 6 rfl
             replace hs1278 := hs1278.mono hle1289
             replace hs1279 := hs1279.mono hle1289
             replace hs1280 := hs1280.mono hle1289
             replace hs1281 := hs1281.mono hle1289
             replace hs1282 := hs1282.mono hle1289
             replace hs1283 := hs1283.mono hle1289
             replace hs1284 := hs1284.mono hle1289
             replace hs1285 := hs1285.mono hle1289
             replace hs1286 := hs1286.mono hle1289
             replace hs1287 := hs1287.mono hle1289
             replace hle0 := Fz.le.trans hle0 hle1289
             have hM1292 : Mem w.heap.size [] w Z [.row b132 [.int .u8 48, .int .u8 (w8 u0.Block), .int .u8 0] 5, .row b111 [.int .i64 0, .slice none 0 0, .int .i64 0, .int .i64 u0.Block, .int .i64 0] 71, .row b53 [.int .i64 (((pgetS u0 u1).1).Want), .slice ao28 (((pgetS u0 u1).1).Data).length cap29, .int .i64 (((pgetS u0 u1).1).Next), .int .i64 (((pgetS u0 u1).1).Block), .int .i64 (((pgetS u0 u1).1).Left)] 71, .own (tyInt .u8) 5 ao31 cap32 ((pgetS u0 u1).2.1), .own (tyInt .u8) 5 ao34 cap35 ((pgetS u0 u1).2.2.1), .row b10 [.int .i64 u0.Want, .slice ao1 u0.Data.length cap2, .int .i64 u0.Next, .int .i64 u0.Block, .int .i64 u0.Left] 71] Z1288 wd1277 := hM1290; clear hM1290
             exact hJ146 (rcheckg u0) [] (bconcatS ([u0.Data, u1.drop (1 : Int).toNat] : List (List Int))) (⟨0, [], 0, u0.Block, 0⟩ : Getter) none 0 ao1146 cap1147 none 0 Z1288 ⟨hp1154, (SlR.nil _ _), hs1291, (SlR.nil _ _), hs1281⟩ _ _ ((hFx.region (by kernel_rfl) (by kernel_rfl)).anyβ _ (by kernel_rfl)) (hM1292.keep (List.Sublist.cons _ (List.Sublist.cons_cons _ (List.Sublist.cons_cons _ (List.Sublist.cons_cons _ (List.Sublist.cons_cons _ (List.Sublist.cons_cons _ (List.Sublist.slnil))))))))
           · -- no
            have hp1293 := hp1091.2 hb1116; clear hp1091
            refine sqH ?_; intro hQ1294Q hQ1294
            refine l2 hF1115 hM1053 123 5 0 5 [.int .i64 u0.Want, .slice ao1 u0.Data.length cap2, .int .i64 u0.Next, .int .i64 u0.Block, .int .i64 u0.Left] rfl rfl ?_; intro a1295 hF1296; clear hF1115
            refine sr hF1296 hM1053 1 [.int .i64 u0.Want, .slice ao1 u0.Data.length cap2, .int .i64 u0.Next, .int .i64 u0.Block, .int .i64 u0.Left] (b := b111) (off := 0) (cs := [.int .i64 0, .slice none 0 0, .int .i64 0, .int .i64 u0.Block, .int .i64 0]) (ty := 71) (u := .agg #[.int .i64 u0.Want, .slice ao1 u0.Data.length cap2, .int .i64 u0.Next, .int .i64 u0.Block, .int .i64 u0.Left]) (nog rfl _) rfl rfl (by kernel_rfl) (by kernel_rfl) (by kernel_rfl) (by kernel_rfl) (by kernel_rfl) (by kernel_rfl) (by kernel_rfl) ?_; intro wd1297 hM1298; clear hM1053
            have hM1299 : Mem w.heap.size [] w Z [.row b132 [.int .u8 48, .int .u8 (w8 u0.Block), .int .u8 0] 5, .row b111 [.int .i64 u0.Want, .slice ao1 u0.Data.length cap2, .int .i64 u0.Next, .int .i64 u0.Block, .int .i64 u0.Left] 71, .row b53 [.int .i64 (((pgetS u0 u1).1).Want), .slice ao28 (((pgetS u0 u1).1).Data).length cap29, .int .i64 (((pgetS u0 u1).1).Next), .int .i64 (((pgetS u0 u1).1).Block), .int .i64 (((pgetS u0 u1).1).Left)] 71, .own (tyInt .u8) 5 ao31 cap32 ((pgetS u0 u1).2.1), .own (tyInt .u8) 5 ao34 cap35 ((pgetS u0 u1).2.2.1), .row b10 [.int .i64 u0.Want, .slice ao1 u0.Data.length cap2, .int .i64 u0.Next, .int .i64 u0.Block, .int .i64 u0.Left] 71] Z37 wd1297 := hM1298; clear hM1298
            refine nlH (hQ1294 _ _ ?_); clear hQ1294 hQ1294Q
            have hF1300 : Fr 229 [] [⟨1, [], .slice ao4 u1.length cap5⟩, ⟨2, [], .pointer (some ⟨b10, 0, none⟩)⟩, ⟨5, [], .pointer (some ⟨b53, 0, none⟩)⟩, ⟨6, [], .slice ao31 ((pgetS u0 u1).2.1).length cap32⟩, ⟨7, [], .slice ao34 ((pgetS u0 u1).2.2.1).length cap35⟩, ⟨8, [], .int .i64 ((pgetS u0 u1).2.2.2.1)⟩, ⟨9, [], .int .i64 (rcheckg u0)⟩, ⟨10, [], .pointer (some ⟨b111, 0, none⟩)⟩, ⟨11, [], .slice none 0 0⟩, ⟨12, [], .slice none 0 0⟩, ⟨13, [], .slice (some ⟨b132, 0, none⟩) 3 3⟩] a1295 := hF1296.region (by kernel_rfl) (by kernel_rfl); clear hF1296
            have hcd3_0 := hp1293.1; have hp1337 := hp1293.2; clear hp1293
            have hcd5_0 := hp1337.1; have hp1338 := hp1337.2; clear hp1337
            refine wp_seq (any_invE mixed [[], [0], [], [2], [1, 3], [4], [0, 1, 2, 3, 4, 5], [0, 1, 2, 3, 4, 5, 6]] 8 (fun S a w1 => ∃ (ao1307 : Option Addr) (cap1308 : Nat) (b1313 : Nat) (ao1328 : Option Addr) (cap1329 : Nat) (ud124 : Value) (ud125 : Value) (ud126 : Value) (ud127 : Value) (ud128 : Value) (ud129 : Value) (ud130 : Value) (rh0 : Res) (rh1 : Res) (rh2 : Res) (rh3 : Res) (rh4 : Res) (rh5 : Res) (rh6 : Res) (Z1339 : Fz), Fz.le Z37 Z1339 ∧ Fr 229 [] [⟨1, [], .slice ao4 u1.length cap5⟩, ⟨2, [], .pointer (some ⟨b10, 0, none⟩)⟩, ⟨5, [], .pointer (some ⟨b53, 0, none⟩)⟩, ⟨6, [], .slice ao31 ((pgetS u0 u1).2.1).length cap32⟩, ⟨7, [], .slice ao34 ((pgetS u0 u1).2.2.1).length cap35⟩, ⟨8, [], .int .i64 ((pgetS u0 u1).2.2.2.1)⟩, ⟨9, [], .int .i64 (rcheckg u0)⟩, ⟨10, [], .pointer (some ⟨b111, 0, none⟩)⟩, ⟨11, [], .slice none 0 0⟩, ⟨12, [], .slice none 0 0⟩, ⟨13, [], .slice (some ⟨b132, 0, none⟩) 3 3⟩, ⟨124, [], ud124⟩, ⟨125, [], ud125⟩, ⟨126, [], ud126⟩, ⟨127, [], ud127⟩, ⟨128, [], ud128⟩, ⟨129, [], ud129⟩, ⟨130, [], ud130⟩] a ∧ Mem w.heap.size [] w Z [rh0, rh1, rh2, rh3, rh4, rh5, rh6] Z1339 w1 ∧ (S 0 = true → ud124 = .pointer (some ⟨b10, 1, none⟩)) ∧ (S 1 = true → ud125 = .slice ao1 u0.Data.length cap2) ∧ (S 2 = true → ud126 = .slice ao4 u1.length cap5) ∧ (S 3 = true → ud127 = .slice ao1307 (u1.drop (1 : Int).toNat).length cap1308) ∧ (S 4 = true → ud128 = .slice (some ⟨b1313, 0, none⟩) 2 2) ∧ (S 5 = true → ud129 = .slice ao1328 (bconcatS ([u0.Data, u1.drop (1 : Int).toNat] : List (List Int))).length cap1329) ∧ (S 6 = true → ud130 = .pointer (some ⟨b111, 1, none⟩)) ∧ (rh0 = .row b132 [.int .u8 48, .int .u8 (w8 u0.Block), .int .u8 0] 5) ∧ (S 7 = false → rh1 = .row b111 [.int .i64 u0.Want, .slice ao1 u0.Data.length cap2, .int .i64 u0.Next, .int .i64 u0.Block, .int .i64 u0.Left] 71) ∧ (S 7 = true → rh1 = .row b111 [.int .i64 u0.Want, .slice ao1328 (bconcatS ([u0.Data, u1.drop (1 : Int).toNat] : List (List Int))).length cap1329, .int .i64 u0.Next, .int .i64 u0.Block, .int .i64 u0.Left] 71) ∧ (rh2 = .row b53 [.int .i64 (((pgetS u0 u1).1).Want), .slice ao28 (((pgetS u0 u1).1).Data).length cap29, .int .i64 (((pgetS u0 u1).1).Next), .int .i64 (((pgetS u0 u1).1).Block), .int .i64 (((pgetS u0 u1).1).Left)] 71) ∧ (rh3 = .own (tyInt .u8) 5 ao31 cap32 ((pgetS u0 u1).2.1)) ∧ (rh4 = .own (tyInt .u8) 5 ao34 cap35 ((pgetS u0 u1).2.2.1)) ∧ (rh5 = .row b10 [.int .i64 u0.Want, .slice ao1 u0.Data.length cap2, .int .i64 u0.Next, .int .i64 u0.Block, .int .i64 u0.Left] 71) ∧ (S 4 = false → rh6 = .nil) ∧ (S 4 = true → S 5 = false → rh6 = .row b1313 [.slice ao1 u0.Data.length cap2, .slice ao1307 (u1.drop (1 : Int).toNat).length cap1308] 36) ∧ (S 5 = true → rh6 = .own (tyInt .u8) 5 ao1328 cap1329 (bconcatS ([u0.Data, u1.drop (1 : Int).toNat] : List (List Int)))) ∧ (S 3 = true → SlR (tyInt .u8) Z1339 ao1307 cap1308 (u1.drop (1 : Int).toNat)) ∧ (S 5 = true → SlR (tySl (tyInt .u8)) Z1339 (some ⟨b1313, 0, none⟩) 2 ([u0.Data, u1.drop (1 : Int).toNat] : List (List Int)))) ?h0 ?hs ?hE)
            case h0 =>
             have hF1341 := hF1300.any 124
             have hF1342 := hF1341.any 125
             have hF1343 := hF1342.any 126
             have hF1344 := hF1343.any 127
             have hF1345 := hF1344.any 128
             have hF1346 := hF1345.any 129
             have hF1347 := hF1346.any 130
             have hM1348 := hM1299.nilRes
             have hM1349 := (hM1348.perm ((pk 1 rfl).trans (((pk 1 rfl).trans (((pk 1 rfl).trans (((pk 1 rfl).trans (((pk 1 rfl).trans (((pk 1 rfl).trans ((List.Perm.refl _).cons _)).cons _)).cons _)).cons _)).cons _)).cons _))).drew
             exact ⟨none, 0, 0, none, 0, a1295.tmps.getD 124 undef, a1295.tmps.getD 125 undef, a1295.tmps.getD 126 undef, a1295.tmps.getD 127 undef, a1295.tmps.getD 128 undef, a1295.tmps.getD 129 undef, a1295.tmps.getD 130 undef, .row b132 [.int .u8 48, .int .u8 (w8 u0.Block), .int .u8 0] 5, .row b111 [.int .i64 u0.Want, .slice ao1 u0.Data.length cap2, .int .i64 u0.Next, .int .i64 u0.Block, .int .i64 u0.Left] 71, .row b53 [.int .i64 (((pgetS u0 u1).1).Want), .slice ao28 (((pgetS u0 u1).1).Data).length cap29, .int .i64 (((pgetS u0 u1).1).Next), .int .i64 (((pgetS u0 u1).1).Block), .int .i64 (((pgetS u0 u1).1).Left)] 71, .own (tyInt .u8) 5 ao31 cap32 ((pgetS u0 u1).2.1), .own (tyInt .u8) 5 ao34 cap35 ((pgetS u0 u1).2.2.1), .row b10 [.int .i64 u0.Want, .slice ao1 u0.Data.length cap2, .int .i64 u0.Next, .int .i64 u0.Block, .int .i64 u0.Left] 71, .nil, Z37, Fz.le.refl _, hF1347.region (by kernel_rfl) (by kernel_rfl), hM1349, ff, ff, ff, ff, ff, ff, ff, rfl, kf, ff, rfl, rfl, rfl, rfl, kf, ff, ff, ff, ff⟩
            case hs =>
             intro S hcl i o hil hi hSi hpre a w1 hI; refine hid ?_; intro G hG; obtain ⟨ao1307, hI⟩ := hI; obtain ⟨cap1308, hI⟩ := hI; obtain ⟨b1313, hI⟩ := hI; obtain ⟨ao1328, hI⟩ := hI; obtain ⟨cap1329, hI⟩ := hI; obtain ⟨ud124, hI⟩ := hI; obtain ⟨ud125, hI⟩ := hI; obtain ⟨ud126, hI⟩ := hI; obtain ⟨ud127, hI⟩ := hI; obtain ⟨ud128, hI⟩ := hI; obtain ⟨ud129, hI⟩ := hI; obtain ⟨ud130, hI⟩ := hI; obtain ⟨rh0, hI⟩ := hI; obtain ⟨rh1, hI⟩ := hI; obtain ⟨rh2, hI⟩ := hI; obtain ⟨rh3, hI⟩ := hI; obtain ⟨rh4, hI⟩ := hI; obtain ⟨rh5, hI⟩ := hI; obtain ⟨rh6, hI⟩ := hI; obtain ⟨Z1339, hI⟩ := hI; obtain ⟨hle1340, hI⟩ := hI; obtain ⟨hFx, hI⟩ := hI; obtain ⟨hMx, hI⟩ := hI; obtain ⟨cu124, hI⟩ := hI; obtain ⟨cu125, hI⟩ := hI; obtain ⟨cu126, hI⟩ := hI; obtain ⟨cu127, hI⟩ := hI; obtain ⟨cu128, hI⟩ := hI; obtain ⟨cu129, hI⟩ := hI; obtain ⟨cu130, hI⟩ := hI; obtain ⟨cr0_0, hI⟩ := hI; obtain ⟨cr1_0, hI⟩ := hI; obtain ⟨cr1_1, hI⟩ := hI; obtain ⟨cr2_0, hI⟩ := hI; obtain ⟨cr3_0, hI⟩ := hI; obtain ⟨cr4_0, hI⟩ := hI; obtain ⟨cr5_0, hI⟩ := hI; obtain ⟨cr6_0, hI⟩ := hI; obtain ⟨cr6_1, hI⟩ := hI; obtain ⟨cr6_2, hI⟩ := hI; obtain ⟨cf0, hI⟩ := hI; have cf1 := hI; clear hI
             have hcase : i = 0 ∨ i = 1 ∨ i = 2 ∨ i = 3 ∨ i = 4 ∨ i = 5 ∨ i = 6 ∨ i = 7 := by clear hi; omega
             rcases hcase with rfl | rfl | rfl | rfl | rfl | rfl | rfl | rfl
             · -- 0: fieldAddr
              obtain rfl := Option.some.inj hi
              have hx0 := hSi
              have hx1 := negF hcl 1 0 (by kernel_rfl) hx0
              have hx4 := negF hcl 4 1 (by kernel_rfl) hx1
              have hx5 := negF hcl 5 4 (by kernel_rfl) hx4
              have hx6 := negF hcl 6 0 (by kernel_rfl) hx0
              have hx7 := negF hcl 7 0 (by kernel_rfl) hx0
              obtain rfl := cr0_0
              obtain rfl := cr1_0 hx7
              obtain rfl := cr2_0
              obtain rfl := cr3_0
              obtain rfl := cr4_0
              obtain rfl := cr5_0
              obtain rfl := cr6_0 hx4
              refine hG (any_step ?_); clear hG G; intro A J hJ
              have hle0 := Fz.le.trans hle0 hle1340
              have hzst := Fz.le.refl Z1339
              have hs1350 := hs3.mono hle1340
              have hs1351 := hs6.mono hle1340
              have hs1352 := hs30.mono hle1340
              have hs1353 := hle264.mono hle1340
              have hs1354 := hP315.mono hle1340
              have hs1355 := hP500.mono hle1340
              have hs1356 := hP984.mono hle1340
              have hs1357 := hP1026.mono hle1340
              have hM1358 := hMx.keep (List.Sublist.cons_cons _ (List.Sublist.cons_cons _ (List.Sublist.cons_cons _ (List.Sublist.cons_cons _ (List.Sublist.cons_cons _ (List.Sublist.cons_cons _ (List.Sublist.cons _ (List.Sublist.slnil)))))))); clear hMx
              refine s1 hFx 124 (.pointer (some ⟨b10, 1, none⟩)) ?_; intro a1359 hF1360; clear hFx
              refine nl (qnI (hJ _ _ ?_)); clear hJ J
              have hM1361 := hM1358.nilRes
              exact ⟨ao1307, cap1308, b1313, ao1328, cap1329, .pointer (some ⟨b10, 1, none⟩), ud125, ud126, ud127, ud128, ud129, ud130, .row b132 [.int .u8 48, .int .u8 (w8 u0.Block), .int .u8 0] 5, .row b111 [.int .i64 u0.Want, .slice ao1 u0.Data.length cap2, .int .i64 u0.Next, .int .i64 u0.Block, .int .i64 u0.Left] 71, .row b53 [.int .i64 (((pgetS u0 u1).1).Want), .slice ao28 (((pgetS u0 u1).1).Data).length cap29, .int .i64 (((pgetS u0 u1).1).Next), .int .i64 (((pgetS u0 u1).1).Block), .int .i64 (((pgetS u0 u1).1).Left)] 71, .own (tyInt .u8) 5 ao31 cap32 ((pgetS u0 u1).2.1), .own (tyInt .u8) 5 ao34 cap35 ((pgetS u0 u1).2.2.1), .row b10 [.int .i64 u0.Want, .slice ao1 u0.Data.length cap2, .int .i64 u0.Next, .int .i64 u0.Block, .int .i64 u0.Left] 71, .nil, Z1339, hle1340, hF1360.region (by kernel_rfl) (by kernel_rfl), hM1361.perm ((pk 1 rfl).trans (((pk 1 rfl).trans (((pk 1 rfl).trans (((pk 1 rfl).trans (((pk 1 rfl).trans (((pk 1 rfl).trans ((List.Perm.refl _).cons _)).cons _)).cons _)).cons _)).cons _)).cons _)), kf, (nt hx1), cu126, cu127, (nt hx4), (nt hx5), (nt hx6), rfl, kf, (nt hx7), rfl, rfl, rfl, rfl, kf, (fun h _ => nt hx4 h), (nt hx5), cf0, (nt hx5)⟩
             · -- 1: load
              obtain rfl := Option.some.inj hi
              have hx0 := hpre 0 (by kernel_rfl)
              have hx1 := hSi
              have hx4 := negF hcl 4 1 (by kernel_rfl) hx1
              have hx5 := negF hcl 5 4 (by kernel_rfl) hx4
              have hx6 := negF hcl 6 1 (by kernel_rfl) hx1
              have hx7 := negF hcl 7 1 (by kernel_rfl) hx1
              obtain rfl := cu124 hx0
              obtain rfl := cr0_0
              obtain rfl := cr1_0 hx7
              obtain rfl := cr2_0
              obtain rfl := cr3_0
              obtain rfl := cr4_0
              obtain rfl := cr5_0
              obtain rfl := cr6_0 hx4
              refine hG (any_step ?_); clear hG G; intro A J hJ
              have hle0 := Fz.le.trans hle0 hle1340
              have hzst := Fz.le.refl Z1339
              have hs1363 := hs3.mono hle1340
              have hs1364 := hs6.mono hle1340
              have hs1365 := hs30.mono hle1340
              have hs1366 := hle264.mono hle1340
              have hs1367 := hP315.mono hle1340
              have hs1368 := hP500.mono hle1340
              have hs1369 := hP984.mono hle1340
              have hs1370 := hP1026.mono hle1340
              have hM1371 := hMx.keep (List.Sublist.cons_cons _ (List.Sublist.cons_cons _ (List.Sublist.cons_cons _ (List.Sublist.cons_cons _ (List.Sublist.cons_cons _ (List.Sublist.cons_cons _ (List.Sublist.cons _ (List.Sublist.slnil)))))))); clear hMx
              refine l1 hFx hM1371 125 5 1 (.slice ao1 u0.Data.length cap2) rfl rfl ?_; intro a1372 hF1373; clear hFx
              refine nl (qnI (hJ _ _ ?_)); clear hJ J
              have hM1374 := hM1371.nilRes
              exact ⟨ao1307, cap1308, b1313, ao1328, cap1329, .pointer (some ⟨b10, 1, none⟩), .slice ao1 u0.Data.length cap2, ud126, ud127, ud128, ud129, ud130, .row b132 [.int .u8 48, .int .u8 (w8 u0.Block), .int .u8 0] 5, .row b111 [.int .i64 u0.Want, .slice ao1 u0.Data.length cap2, .int .i64 u0.Next, .int .i64 u0.Block, .int .i64 u0.Left] 71, .row b53 [.int .i64 (((pgetS u0 u1).1).Want), .slice ao28 (((pgetS u0 u1).1).Data).length cap29, .int .i64 (((pgetS u0 u1).1).Next), .int .i64 (((pgetS u0 u1).1).Block), .int .i64 (((pgetS u0 u1).1).Left)] 71, .own (tyInt .u8) 5 ao31 cap32 ((pgetS u0 u1).2.1), .own (tyInt .u8) 5 ao34 cap35 ((pgetS u0 u1).2.2.1), .row b10 [.int .i64 u0.Want, .slice ao1 u0.Data.length cap2, .int .i64 u0.Next, .int .i64 u0.Block, .int .i64 u0.Left] 71, .nil, Z1339, hle1340, hF1373.region (by kernel_rfl) (by kernel_rfl), hM1374.perm ((pk 1 rfl).trans (((pk 1 rfl).trans (((pk 1 rfl).trans (((pk 1 rfl).trans (((pk 1 rfl).trans (((pk 1 rfl).trans ((List.Perm.refl _).cons _)).cons _)).cons _)).cons _)).cons _)).cons _)), kf, kf, cu126, cu127, (nt hx4), (nt hx5), (nt hx6), rfl, kf, (nt hx7), rfl, rfl, rfl, rfl, kf, (fun h _ => nt hx4 h), (nt hx5), cf0, (nt hx5)⟩
             · -- 2: move
              obtain rfl := Option.some.inj hi
              have hx2 := hSi
              have hx3 := negF hcl 3 2 (by kernel_rfl) hx2
              have hx4 := negF hcl 4 3 (by kernel_rfl) hx3
              have hx5 := negF hcl 5 4 (by kernel_rfl) hx4
              have hx6 := negF hcl 6 2 (by kernel_rfl) hx2
              have hx7 := negF hcl 7 2 (by kernel_rfl) hx2
              obtain rfl := cr0_0
              obtain rfl := cr1_0 hx7
              obtain rfl := cr2_0
              obtain rfl := cr3_0
              obtain rfl := cr4_0
              obtain rfl := cr5_0
              obtain rfl := cr6_0 hx4
              refine hG (any_step ?_); clear hG G; intro A J hJ
              have hle0 := Fz.le.trans hle0 hle1340
              have hzst := Fz.le.refl Z1339
              have hs1376 := hs3.mono hle1340
              have hs1377 := hs6.mono hle1340
              have hs1378 := hs30.mono hle1340
              have hs1379 := hle264.mono hle1340
              have hs1380 := hP315.mono hle1340
              have hs1381 := hP500.mono hle1340
              have hs1382 := hP984.mono hle1340
              have hs1383 := hP1026.mono hle1340
              have hM1384 := hMx.keep (List.Sublist.cons_cons _ (List.Sublist.cons_cons _ (List.Sublist.cons_cons _ (List.Sublist.cons_cons _ (List.Sublist.cons_cons _ (List.Sublist.cons_cons _ (List.Sublist.cons _ (List.Sublist.slnil)))))))); clear hMx
              refine s1 hFx 126 (.slice ao4 u1.length cap5) ?_; intro a1385 hF1386; clear hFx
              refine nl (qnI (hJ _ _ ?_)); clear hJ J
              have hM1387 := hM1384.nilRes
              exact ⟨ao1307, cap1308, b1313, ao1328, cap1329, ud124, ud125, .slice ao4 u1.length cap5, ud127, ud128, ud129, ud130, .row b132 [.int .u8 48, .int .u8 (w8 u0.Block), .int .u8 0] 5, .row b111 [.int .i64 u0.Want, .slice ao1 u0.Data.length cap2, .int .i64 u0.Next, .int .i64 u0.Block, .int .i64 u0.Left] 71, .row b53 [.int .i64 (((pgetS u0 u1).1).Want), .slice ao28 (((pgetS u0 u1).1).Data).length cap29, .int .i64 (((pgetS u0 u1).1).Next), .int .i64 (((pgetS u0 u1).1).Block), .int .i64 (((pgetS u0 u1).1).Left)] 71, .own (tyInt .u8) 5 ao31 cap32 ((pgetS u0 u1).2.1), .own (tyInt .u8) 5 ao34 cap35 ((pgetS u0 u1).2.2.1), .row b10 [.int .i64 u0.Want, .slice ao1 u0.Data.length cap2, .int .i64 u0.Next, .int .i64 u0.Block, .int .i64 u0.Left] 71, .nil, Z1339, hle1340, hF1386.region (by kernel_rfl) (by kernel_rfl), hM1387.perm ((pk 1 rfl).trans (((pk 1 rfl).trans (((pk 1 rfl).trans (((pk 1 rfl).trans (((pk 1 rfl).trans (((pk 1 rfl).trans ((List.Perm.refl _).cons _)).cons _)).cons _)).cons _)).cons _)).cons _)), cu124, cu125, kf, (nt hx3), (nt hx4), (nt hx5), (nt hx6), rfl, kf, (nt hx7), rfl, rfl, rfl, rfl, kf, (fun h _ => nt hx4 h), (nt hx5), (nt hx3), (nt hx5)⟩
             · -- 3: slice
              obtain rfl := Option.some.inj hi
              have hx2 := hpre 2 (by kernel_rfl)
              have hx3 := hSi
              have hx4 := negF hcl 4 3 (by kernel_rfl) hx3
              have hx5 := negF hcl 5 4 (by kernel_rfl) hx4
              have hx6 := negF hcl 6 3 (by kernel_rfl) hx3
              have hx7 := negF hcl 7 3 (by kernel_rfl) hx3
              obtain rfl := cu126 hx2
              obtain rfl := cr0_0
              obtain rfl := cr1_0 hx7
              obtain rfl := cr2_0
              obtain rfl := cr3_0
              obtain rfl := cr4_0
              obtain rfl := cr5_0
              obtain rfl := cr6_0 hx4
              refine hG (any_step ?_); clear hG G; intro A J hJ
              have hle0 := Fz.le.trans hle0 hle1340
              have hzst := Fz.le.refl Z1339
              have hs1389 := hs3.mono hle1340
              have hs1390 := hs6.mono hle1340
              have hs1391 := hs30.mono hle1340
              have hs1392 := hle264.mono hle1340
              have hs1393 := hP315.mono hle1340
              have hs1394 := hP500.mono hle1340
              have hs1395 := hP984.mono hle1340
              have hs1396 := hP1026.mono hle1340
              have hM1397 := hMx.keep (List.Sublist.cons_cons _ (List.Sublist.cons_cons _ (List.Sublist.cons_cons _ (List.Sublist.cons_cons _ (List.Sublist.cons_cons _ (List.Sublist.cons_cons _ (List.Sublist.cons _ (List.Sublist.slnil)))))))); clear hMx
              refine slL hFx (T := (tyInt .u8)) (xs := u1) hs1390 (1 : Int) hcd3_0 (k := .i64) (e := 5) (bytes := 1) (nog rfl _) rfl (by kernel_rfl) rfl (by kernel_rfl) (by kernel_rfl) (by kernel_rfl) ?_; intro ao1398 cap1399 a1402 hn1400 hs1401 hF1403; clear hFx
              refine nl (qnI (hJ _ _ ?_)); clear hJ J
              have hM1404 := hM1397.nilRes
              exact ⟨ao1398, cap1399, b1313, ao1328, cap1329, ud124, ud125, .slice ao4 u1.length cap5, .slice ao1398 (u1.drop (1 : Int).toNat).length cap1399, ud128, ud129, ud130, .row b132 [.int .u8 48, .int .u8 (w8 u0.Block), .int .u8 0] 5, .row b111 [.int .i64 u0.Want, .slice ao1 u0.Data.length cap2, .int .i64 u0.Next, .int .i64 u0.Block, .int .i64 u0.Left] 71, .row b53 [.int .i64 (((pgetS u0 u1).1).Want), .slice ao28 (((pgetS u0 u1).1).Data).length cap29, .int .i64 (((pgetS u0 u1).1).Next), .int .i64 (((pgetS u0 u1).1).Block), .int .i64 (((pgetS u0 u1).1).Left)] 71, .own (tyInt .u8) 5 ao31 cap32 ((pgetS u0 u1).2.1), .own (tyInt .u8) 5 ao34 cap35 ((pgetS u0 u1).2.2.1), .row b10 [.int .i64 u0.Want, .slice ao1 u0.Data.length cap2, .int .i64 u0.Next, .int .i64 u0.Block, .int .i64 u0.Left] 71, .nil, Z1339, hle1340, hF1403.region (by kernel_rfl) (by kernel_rfl), hM1404.perm ((pk 1 rfl).trans (((pk 1 rfl).trans (((pk 1 rfl).trans (((pk 1 rfl).trans (((pk 1 rfl).trans (((pk 1 rfl).trans ((List.Perm.refl _).cons _)).cons _)).cons _)).cons _)).cons _)).cons _)), cu124, cu125, kf, kf, (nt hx4), (nt hx5), (nt hx6), rfl, kf, (nt hx7), rfl, rfl, rfl, rfl, kf, (fun h _ => nt hx4 h), (nt hx5), (fun _ => hs1401), (nt hx5)⟩
             · -- 4: buildSlice
              obtain rfl := Option.some.inj hi
              have hx3 := hpre 3 (by kernel_rfl)
              have hx1 := hpre 1 (by kernel_rfl)
              have hx2 := hcl 3 2 (by kernel_rfl) hx3
              have hx0 := hcl 1 0 (by kernel_rfl) hx1
              have hx4 := hSi
              have hx5 := negF hcl 5 4 (by kernel_rfl) hx4
              have hx6 := negF hcl 6 4 (by kernel_rfl) hx4
              have hx7 := negF hcl 7 4 (by kernel_rfl) hx4
              obtain rfl := cu124 hx0
              obtain rfl := cu125 hx1
              obtain rfl := cu126 hx2
              obtain rfl := cu127 hx3
              obtain rfl := cr0_0
              obtain rfl := cr1_0 hx7
              obtain rfl := cr2_0
              obtain rfl := cr3_0
              obtain rfl := cr4_0
              obtain rfl := cr5_0
              obtain rfl := cr6_0 hx4
              refine hG (any_step ?_); clear hG G; intro A J hJ
              have hle0 := Fz.le.trans hle0 hle1340
              have hzst := Fz.le.refl Z1339
              have hs1406 := hs3.mono hle1340
              have hs1407 := hs6.mono hle1340
              have hs1408 := hs30.mono hle1340
              have hs1409 := hle264.mono hle1340
              have hs1410 := hP315.mono hle1340
              have hs1411 := hP500.mono hle1340
              have hs1412 := hP984.mono hle1340
              have hs1413 := hP1026.mono hle1340
              have hs1414 := cf0 hx3
              have hM1415 := hMx.keep (List.Sublist.cons_cons _ (List.Sublist.cons_cons _ (List.Sublist.cons_cons _ (List.Sublist.cons_cons _ (List.Sublist.cons_cons _ (List.Sublist.cons_cons _ (List.Sublist.cons _ (List.Sublist.slnil)))))))); clear hMx
              refine sn hFx hM1415 (fun b => .slice (some ⟨b, 0, none⟩) 2 2) [.slice ao1 u0.Data.length cap2, .slice ao1307 (u1.drop (1 : Int).toNat).length cap1308] 36 (nog rfl _) rfl (by kernel_rfl) (by kernel_rfl) ?_; intro b1416 a1417 wd1419 hF1418 hM1420; clear hFx hM1415
              refine nl (qnI (hJ _ _ ?_)); clear hJ J
              exact ⟨ao1307, cap1308, b1416, ao1328, cap1329, .pointer (some ⟨b10, 1, none⟩), .slice ao1 u0.Data.length cap2, .slice ao4 u1.length cap5, .slice ao1307 (u1.drop (1 : Int).toNat).length cap1308, .slice (some ⟨b1416, 0, none⟩) 2 2, ud129, ud130, .row b132 [.int .u8 48, .int .u8 (w8 u0.Block), .int .u8 0] 5, .row b111 [.int .i64 u0.Want, .slice ao1 u0.Data.length cap2, .int .i64 u0.Next, .int .i64 u0.Block, .int .i64 u0.Left] 71, .row b53 [.int .i64 (((pgetS u0 u1).1).Want), .slice ao28 (((pgetS u0 u1).1).Data).length cap29, .int .i64 (((pgetS u0 u1).1).Next), .int .i64 (((pgetS u0 u1).1).Block), .int .i64 (((pgetS u0 u1).1).Left)] 71, .own (tyInt .u8) 5 ao31 cap32 ((pgetS u0 u1).2.1), .own (tyInt .u8) 5 ao34 cap35 ((pgetS u0 u1).2.2.1), .row b10 [.int .i64 u0.Want, .slice ao1 u0.Data.length cap2, .int .i64 u0.Next, .int .i64 u0.Block, .int .i64 u0.Left] 71, .row b1416 [.slice ao1 u0.Data.length cap2, .slice ao1307 (u1.drop (1 : Int).toNat).length cap1308] 36, Z1339, hle1340, hF1418.region (by kernel_rfl) (by kernel_rfl), hM1420.perm ((pk 1 rfl).trans (((pk 1 rfl).trans (((pk 1 rfl).trans (((pk 1 rfl).trans (((pk 1 rfl).trans (((pk 1 rfl).trans ((List.Perm.refl _).cons _)).cons _)).cons _)).cons _)).cons _)).cons _)), kf, kf, kf, kf, kf, (nt hx5), (nt hx6), rfl, kf, (nt hx7), rfl, rfl, rfl, rfl, nu, kf2, (nt hx5), (fun _ => hs1414), (nt hx5)⟩
             · -- 5: call
              obtain rfl := Option.some.inj hi
              have hx4 := hpre 4 (by kernel_rfl)
              have hx3 := hcl 4 3 (by kernel_rfl) hx4
              have hx1 := hcl 4 1 (by kernel_rfl) hx4
              have hx2 := hcl 3 2 (by kernel_rfl) hx3
              have hx0 := hcl 1 0 (by kernel_rfl) hx1
              have hx5 := hSi
              have hx6 := negF hcl 6 5 (by kernel_rfl) hx5
              have hx7 := negF hcl 7 5 (by kernel_rfl) hx5
              obtain rfl := cu124 hx0
              obtain rfl := cu125 hx1
              obtain rfl := cu126 hx2
              obtain rfl := cu127 hx3
              obtain rfl := cu128 hx4
              obtain rfl := cr0_0
              obtain rfl := cr1_0 hx7
              obtain rfl := cr2_0
              obtain rfl := cr3_0
              obtain rfl := cr4_0
              obtain rfl := cr5_0
              obtain rfl := cr6_1 hx4 hx5
              refine hG (any_step ?_); clear hG G; intro A J hJ
              have hle0 := Fz.le.trans hle0 hle1340
              have hzst := Fz.le.refl Z1339
              have hs1422 := hs3.mono hle1340
              have hs1423 := hs6.mono hle1340
              have hs1424 := hs30.mono hle1340
              have hs1425 := hle264.mono hle1340
              have hs1426 := hP315.mono hle1340
              have hs1427 := hP500.mono hle1340
              have hs1428 := hP984.mono hle1340
              have hs1429 := hP1026.mono hle1340
              have hs1430 := cf0 hx3
              have hM1431 : Mem w.heap.size [] w Z [.row b132 [.int .u8 48, .int .u8 (w8 u0.Block), .int .u8 0] 5, .row b111 [.int .i64 u0.Want, .slice ao1 u0.Data.length cap2, .int .i64 u0.Next, .int .i64 u0.Block, .int .i64 u0.Left] 71, .row b53 [.int .i64 (((pgetS u0 u1).1).Want), .slice ao28 (((pgetS u0 u1).1).Data).length cap29, .int .i64 (((pgetS u0 u1).1).Next), .int .i64 (((pgetS u0 u1).1).Block), .int .i64 (((pgetS u0 u1).1).Left)] 71, .own (tyInt .u8) 5 ao31 cap32 ((pgetS u0 u1).2.1), .own (tyInt .u8) 5 ao34 cap35 ((pgetS u0 u1).2.2.1), .row b10 [.int .i64 u0.Want, .slice ao1 u0.Data.length cap2, .int .i64 u0.Next, .int .i64 u0.Block, .int .i64 u0.Left] 71, .own (tySl (tyInt .u8)) 36 (some ⟨b1313, 0, none⟩) 2 ([u0.Data, u1.drop (1 : Int).toNat] : List (List Int))] Z1339 w1 := hMx.rowOwn (T := (tySl (tyInt .u8))) (xs := ([u0.Data, u1.drop (1 : Int).toNat] : List (List Int))) 6 rfl (by decide) (by show 2 ≤ lim; decide) ((RepAll.one (T := (tySl (tyInt .u8))) (x := u0.Data) ⟨ao1, cap2, rfl, hs1422⟩).append (RepAll.one (T := (tySl (tyInt .u8))) (x := u1.drop (1 : Int).toNat) ⟨ao1307, cap1308, rfl, hs1430⟩)); clear hMx
              obtain ⟨Z1432, hle1433, hM1434, hs1435⟩ := hM1431.freeze 6 rfl
              replace hzst := hzst.mono hle1433
              replace hs1422 := hs1422.mono hle1433
              replace hs1423 := hs1423.mono hle1433
              replace hs1424 := hs1424.mono hle1433
              replace hs1425 := hs1425.mono hle1433
              replace hs1426 := hs1426.mono hle1433
              replace hs1427 := hs1427.mono hle1433
              replace hs1428 := hs1428.mono hle1433
              replace hs1429 := hs1429.mono hle1433
              replace hs1430 := hs1430.mono hle1433
              replace hle0 := Fz.le.trans hle0 hle1433
              have hM1436 : Mem w.heap.size [] w Z [.row b132 [.int .u8 48, .int .u8 (w8 u0.Block), .int .u8 0] 5, .row b111 [.int .i64 u0.Want, .slice ao1 u0.Data.length cap2, .int .i64 u0.Next, .int .i64 u0.Block, .int .i64 u0.Left] 71, .row b53 [.int .i64 (((pgetS u0 u1).1).Want), .slice ao28 (((pgetS u0 u1).1).Data).length cap29, .int .i64 (((pgetS u0 u1).1).Next), .int .i64 (((pgetS u0 u1).1).Block), .int .i64 (((pgetS u0 u1).1).Left)] 71, .own (tyInt .u8) 5 ao31 cap32 ((pgetS u0 u1).2.1), .own (tyInt .u8) 5 ao34 cap35 ((pgetS u0 u1).2.2.1), .row b10 [.int .i64 u0.Want, .slice ao1 u0.Data.length cap2, .int .i64 u0.Next, .int .i64 u0.Block, .int .i64 u0.Left] 71] Z1432 w1 := hM1434; clear hM1434
              refine cl hFx 46 #[.slice (some ⟨b1313, 0, none⟩) ([u0.Data, u1.drop (1 : Int).toNat] : List (List Int)).length 2] (nog rfl _) rfl (by kernel_rfl) (by kernel_rfl) ?_
              refine (bconcat_fun ([u0.Data, u1.drop (1 : Int).toNat] : List (List Int)) hcd5_0 (some ⟨b1313, 0, none⟩) 2 _ _ hs1435 hM1436.fz).mono ?_; rintro _ wd1437 ⟨ao1441, cap1442, Z1443, rfl, hm⟩; refine ⟨_, rfl, ?_⟩; intro a1438 hF1439; have hM1440 := hM1436.callZ hm; have hle1444 := hm.ext.le; clear hm hM1436 hFx
              replace hzst := hzst.mono hle1444
              replace hs1422 := hs1422.mono hle1444
              replace hs1423 := hs1423.mono hle1444
              replace hs1424 := hs1424.mono hle1444
              replace hs1425 := hs1425.mono hle1444
              replace hs1426 := hs1426.mono hle1444
              replace hs1427 := hs1427.mono hle1444
              replace hs1428 := hs1428.mono hle1444
              replace hs1429 := hs1429.mono hle1444
              replace hs1430 := hs1430.mono hle1444
              replace hs1435 := hs1435.mono hle1444
              replace hle0 := Fz.le.trans hle0 hle1444
              have hM1445 : Mem w.heap.size [] w Z [.own (tyInt .u8) 5 ao1441 cap1442 (bconcatS ([u0.Data, u1.drop (1 : Int).toNat] : List (List Int))), .row b132 [.int .u8 48, .int .u8 (w8 u0.Block), .int .u8 0] 5, .row b111 [.int .i64 u0.Want, .slice ao1 u0.Data.length cap2, .int .i64 u0.Next, .int .i64 u0.Block, .int .i64 u0.Left] 71, .row b53 [.int .i64 (((pgetS u0 u1).1).Want), .slice ao28 (((pgetS u0 u1).1).Data).length cap29, .int .i64 (((pgetS u0 u1).1).Next), .int .i64 (((pgetS u0 u1).1).Block), .int .i64 (((pgetS u0 u1).1).Left)] 71, .own (tyInt .u8) 5 ao31 cap32 ((pgetS u0 u1).2.1), .own (tyInt .u8) 5 ao34 cap35 ((pgetS u0 u1).2.2.1), .row b10 [.int .i64 u0.Want, .slice ao1 u0.Data.length cap2, .int .i64 u0.Next, .int .i64 u0.Block, .int .i64 u0.Left] 71] Z1443 wd1437 := hM1440; clear hM1440
              refine nl (qnI (hJ _ _ ?_)); clear hJ J
              exact ⟨ao1307, cap1308, b1313, ao1441, cap1442, .pointer (some ⟨b10, 1, none⟩), .slice ao1 u0.Data.length cap2, .slice ao4 u1.length cap5, .slice ao1307 (u1.drop (1 : Int).toNat).length cap1308, .slice (some ⟨b1313, 0, none⟩) 2 2, .slice ao1441 (bconcatS ([u0.Data, u1.drop (1 : Int).toNat] : List (List Int))).length cap1442, ud130, .row b132 [.int .u8 48, .int .u8 (w8 u0.Block), .int .u8 0] 5, .row b111 [.int .i64 u0.Want, .slice ao1 u0.Data.length cap2, .int .i64 u0.Next, .int .i64 u0.Block, .int .i64 u0.Left] 71, .row b53 [.int .i64 (((pgetS u0 u1).1).Want), .slice ao28 (((pgetS u0 u1).1).Data).length cap29, .int .i64 (((pgetS u0 u1).1).Next), .int .i64 (((pgetS u0 u1).1).Block), .int .i64 (((pgetS u0 u1).1).Left)] 71, .own (tyInt .u8) 5 ao31 cap32 ((pgetS u0 u1).2.1), .own (tyInt .u8) 5 ao34 cap35 ((pgetS u0 u1).2.2.1), .row b10 [.int .i64 u0.Want, .slice ao1 u0.Data.length cap2, .int .i64 u0.Next, .int .i64 u0.Block, .int .i64 u0.Left] 71, .own (tyInt .u8) 5 ao1441 cap1442 (bconcatS ([u0.Data, u1.drop (1 : Int).toNat] : List (List Int))), Z1443, hle1340.trans hzst, hF1439.region (by kernel_rfl) (by kernel_rfl), hM1445.perm ((pk 1 rfl).trans (((pk 1 rfl).trans (((pk 1 rfl).trans (((pk 1 rfl).trans (((pk 1 rfl).trans (((pk 1 rfl).trans ((List.Perm.refl _).cons _)).cons _)).cons _)).cons _)).cons _)).cons _)), kf, kf, kf, kf, kf, kf, (nt hx6), rfl, kf, (nt hx7), rfl, rfl, rfl, rfl, (tn hx4), (fun _ => nu), kf, (fun _ => hs1430), (fun _ => hs1435)⟩
             · -- 6: fieldAddr
              obtain rfl := Option.some.inj hi
              have hx5 := hpre 5 (by kernel_rfl)
              have hx4 := hpre 4 (by kernel_rfl)
              have hx3 := hpre 3 (by kernel_rfl)
              have hx2 := hpre 2 (by kernel_rfl)
              have hx1 := hpre 1 (by kernel_rfl)
              have hx0 := hpre 0 (by kernel_rfl)
              have hx6 := hSi
              have hx7 := negF hcl 7 6 (by kernel_rfl) hx6
              obtain rfl := cu124 hx0
              obtain rfl := cu125 hx1
              obtain rfl := cu126 hx2
              obtain rfl := cu127 hx3
              obtain rfl := cu128 hx4
              obtain rfl := cu129 hx5
              obtain rfl := cr0_0
              obtain rfl := cr1_0 hx7
              obtain rfl := cr2_0
              obtain rfl := cr3_0
              obtain rfl := cr4_0
              obtain rfl := cr5_0
              obtain rfl := cr6_2 hx5
              refine hG (any_step ?_); clear hG G; intro A J hJ
              have hle0 := Fz.le.trans hle0 hle1340
              have hzst := Fz.le.refl Z1339
              have hs1447 := hs3.mono hle1340
              have hs1448 := hs6.mono hle1340
              have hs1449 := hs30.mono hle1340
              have hs1450 := hle264.mono hle1340
              have hs1451 := hP315.mono hle1340
              have hs1452 := hP500.mono hle1340
              have hs1453 := hP984.mono hle1340
              have hs1454 := hP1026.mono hle1340
              have hs1455 := cf0 hx3
              have hs1456 := cf1 hx5
              refine s1 hFx 130 (.pointer (some ⟨b111, 1, none⟩)) ?_; intro a1457 hF1458; clear hFx
              refine nl (qnI (hJ _ _ ?_)); clear hJ J
              exact ⟨ao1307, cap1308, b1313, ao1328, cap1329, .pointer (some ⟨b10, 1, none⟩), .slice ao1 u0.Data.length cap2, .slice ao4 u1.length cap5, .slice ao1307 (u1.drop (1 : Int).toNat).length cap1308, .slice (some ⟨b1313, 0, none⟩) 2 2, .slice ao1328 (bconcatS ([u0.Data, u1.drop (1 : Int).toNat] : List (List Int))).length cap1329, .pointer (some ⟨b111, 1, none⟩), .row b132 [.int .u8 48, .int .u8 (w8 u0.Block), .int .u8 0] 5, .row b111 [.int .i64 u0.Want, .slice ao1 u0.Data.length cap2, .int .i64 u0.Next, .int .i64 u0.Block, .int .i64 u0.Left] 71, .row b53 [.int .i64 (((pgetS u0 u1).1).Want), .slice ao28 (((pgetS u0 u1).1).Data).length cap29, .int .i64 (((pgetS u0 u1).1).Next), .int .i64 (((pgetS u0 u1).1).Block), .int .i64 (((pgetS u0 u1).1).Left)] 71, .own (tyInt .u8) 5 ao31 cap32 ((pgetS u0 u1).2.1), .own (tyInt .u8) 5 ao34 cap35 ((pgetS u0 u1).2.2.1), .row b10 [.int .i64 u0.Want, .slice ao1 u0.Data.length cap2, .int .i64 u0.Next, .int .i64 u0.Block, .int .i64 u0.Left] 71, .own (tyInt .u8) 5 ao1328 cap1329 (bconcatS ([u0.Data, u1.drop (1 : Int).toNat] : List (List Int))), Z1339, hle1340, hF1458.region (by kernel_rfl) (by kernel_rfl), hMx.perm (List.Perm.refl _), kf, kf, kf, kf, kf, kf, kf, rfl, kf, (nt hx7), rfl, rfl, rfl, rfl, (tn hx4), (fun _ => tn hx5), kf, (fun _ => hs1455), (fun _ => hs1456)⟩
             · -- 7: store
              obtain rfl := Option.some.inj hi
              have hx6 := hpre 6 (by kernel_rfl)
              have hx5 := hpre 5 (by kernel_rfl)
              have hx4 := hpre 4 (by kernel_rfl)
              have hx3 := hpre 3 (by kernel_rfl)
              have hx2 := hpre 2 (by kernel_rfl)
              have hx1 := hpre 1 (by kernel_rfl)
              have hx0 := hpre 0 (by kernel_rfl)
              have hx7 := hSi
              obtain rfl := cu124 hx0
              obtain rfl := cu125 hx1
              obtain rfl := cu126 hx2
              obtain rfl := cu127 hx3
              obtain rfl := cu128 hx4
              obtain rfl := cu129 hx5
              obtain rfl := cu130 hx6
              obtain rfl := cr0_0
              obtain rfl := cr1_0 hx7
              obtain rfl := cr2_0
              obtain rfl := cr3_0
              obtain rfl := cr4_0
              obtain rfl := cr5_0
              obtain rfl := cr6_2 hx5
              refine hG (any_step ?_); clear hG G; intro A J hJ
              have hle0 := Fz.le.trans hle0 hle1340
              have hzst := Fz.le.refl Z1339
              have hs1460 := hs3.mono hle1340
              have hs1461 := hs6.mono hle1340
              have hs1462 := hs30.mono hle1340
              have hs1463 := hle264.mono hle1340
              have hs1464 := hP315.mono hle1340
              have hs1465 := hP500.mono hle1340
              have hs1466 := hP984.mono hle1340
              have hs1467 := hP1026.mono hle1340
              have hs1468 := cf0 hx3
              have hs1469 := cf1 hx5
              refine sr hFx hMx 1 [.int .i64 u0.Want, .slice ao1328 (bconcatS ([u0.Data, u1.drop (1 : Int).toNat] : List (List Int))).length cap1329, .int .i64 u0.Next, .int .i64 u0.Block, .int .i64 u0.Left] (b := b111) (off := 1) (cs := [.int .i64 u0.Want, .slice ao1 u0.Data.length cap2, .int .i64 u0.Next, .int .i64 u0.Block, .int .i64 u0.Left]) (ty := 71) (u := .slice ao1328 (bconcatS ([u0.Data, u1.drop (1 : Int).toNat] : List (List Int))).length cap1329) (nog rfl _) rfl rfl (by kernel_rfl) (by kernel_rfl) (by kernel_rfl) (by kernel_rfl) (by kernel_rfl) (by kernel_rfl) (by kernel_rfl) ?_; intro wd1470 hM1471; clear hMx
              refine nl (qnI (hJ _ _ ?_)); clear hJ J
              exact ⟨ao1307, cap1308, b1313, ao1328, cap1329, .pointer (some ⟨b10, 1, none⟩), .slice ao1 u0.Data.length cap2, .slice ao4 u1.length cap5, .slice ao1307 (u1.drop (1 : Int).toNat).length cap1308, .slice (some ⟨b1313, 0, none⟩) 2 2, .slice ao1328 (bconcatS ([u0.Data, u1.drop (1 : Int).toNat] : List (List Int))).length cap1329, .pointer (some ⟨b111, 1, none⟩), .row b132 [.int .u8 48, .int .u8 (w8 u0.Block), .int .u8 0] 5, .row b111 [.int .i64 u0.Want, .slice ao1328 (bconcatS ([u0.Data, u1.drop (1 : Int).toNat] : List (List Int))).length cap1329, .int .i64 u0.Next, .int .i64 u0.Block, .int .i64 u0.Left] 71, .row b53 [.int .i64 (((pgetS u0 u1).1).Want), .slice ao28 (((pgetS u0 u1).1).Data).length cap29, .int .i64 (((pgetS u0 u1).1).Next), .int .i64 (((pgetS u0 u1).1).Block), .int .i64 (((pgetS u0 u1).1).Left)] 71, .own (tyInt .u8) 5 ao31 cap32 ((pgetS u0 u1).2.1), .own (tyInt .u8) 5 ao34 cap35 ((pgetS u0 u1).2.2.1), .row b10 [.int .i64 u0.Want, .slice ao1 u0.Data.length cap2, .int .i64 u0.Next, .int .i64 u0.Block, .int .i64 u0.Left] 71, .own (tyInt .u8) 5 ao1328 cap1329 (bconcatS ([u0.Data, u1.drop (1 : Int).toNat] : List (List Int))), Z1339, hle1340, hFx.region (by kernel_rfl) (by kernel_rfl), hM1471.perm (List.Perm.refl _), kf, kf, kf, kf, kf, kf, kf, rfl, nu, kf, rfl, rfl, rfl, rfl, (tn hx4), (fun _ => tn hx5), kf, (fun _ => hs1468), (fun _ => hs1469)⟩
            case hE =>
             intro S hS a1473 wd1474 hI; refine hid ?_; intro G hG; obtain ⟨ao1307, hI⟩ := hI; obtain ⟨cap1308, hI⟩ := hI; obtain ⟨b1313, hI⟩ := hI; obtain ⟨ao1328, hI⟩ := hI; obtain ⟨cap1329, hI⟩ := hI; obtain ⟨ud124, hI⟩ := hI; obtain ⟨ud125, hI⟩ := hI; obtain ⟨ud126, hI⟩ := hI; obtain ⟨ud127, hI⟩ := hI; obtain ⟨ud128, hI⟩ := hI; obtain ⟨ud129, hI⟩ := hI; obtain ⟨ud130, hI⟩ := hI; obtain ⟨rh0, hI⟩ := hI; obtain ⟨rh1, hI⟩ := hI; obtain ⟨rh2, hI⟩ := hI; obtain ⟨rh3, hI⟩ := hI; obtain ⟨rh4, hI⟩ := hI; obtain ⟨rh5, hI⟩ := hI; obtain ⟨rh6, hI⟩ := hI; obtain ⟨Z1339, hI⟩ := hI; obtain ⟨hle1340, hI⟩ := hI; obtain ⟨hFx, hI⟩ := hI; obtain ⟨hMx, hI⟩ := hI; obtain ⟨cu124, hI⟩ := hI; obtain ⟨cu125, hI⟩ := hI; obtain ⟨cu126, hI⟩ := hI; obtain ⟨cu127, hI⟩ := hI; obtain ⟨cu128, hI⟩ := hI; obtain ⟨cu129, hI⟩ := hI; obtain ⟨cu130, hI⟩ := hI; obtain ⟨cr0_0, hI⟩ := hI; obtain ⟨cr1_0, hI⟩ := hI; obtain ⟨cr1_1, hI⟩ := hI; obtain ⟨cr2_0, hI⟩ := hI; obtain ⟨cr3_0, hI⟩ := hI; obtain ⟨cr4_0, hI⟩ := hI; obtain ⟨cr5_0, hI⟩ := hI; obtain ⟨cr6_0, hI⟩ := hI; obtain ⟨cr6_1, hI⟩ := hI; obtain ⟨cr6_2, hI⟩ := hI; obtain ⟨cf0, hI⟩ := hI; have cf1 := hI; clear hI; refine hG ?_; clear hG G
             obtain rfl := cu124 (hS 0 (by decide))
             obtain rfl := cu125 (hS 1 (by decide))
             obtain rfl := cu126 (hS 2 (by decide))
             obtain rfl := cu127 (hS 3 (by decide))
             obtain rfl := cu128 (hS 4 (by decide))
             obtain rfl := cu129 (hS 5 (by decide))
             obtain rfl := cu130 (hS 6 (by decide))
             obtain rfl := cr0_0
             obtain rfl := cr1_1 (hS 7 (by decide))
             obtain rfl := cr2_0
             obtain rfl := cr3_0
             obtain rfl := cr4_0
             obtain rfl := cr5_0
             obtain rfl := cr6_2 (hS 5 (by decide))
             have hle0 := Fz.le.trans hle0 hle1340
             have hs1475 := hs3.mono hle1340
             have hs1476 := hs6.mono hle1340
             have hs1477 := hs30.mono hle1340
             have hs1478 := hle264.mono hle1340
             have hs1479 := hP315.mono hle1340
             have hs1480 := hP500.mono hle1340
             have hs1481 := hP984.mono hle1340
             have hs1482 := hP1026.mono hle1340
             have hs1483 := cf0 (hS 3 (by decide))
             have hs1484 := cf1 (hS 5 (by decide))
             refine thn ?_
             have hF1485 : Fr 229 [] [⟨2, [], .pointer (some ⟨b10, 0, none⟩)⟩, ⟨5, [], .pointer (some ⟨b53, 0, none⟩)⟩, ⟨6, [], .slice ao31 ((pgetS u0 u1).2.1).length cap32⟩, ⟨7, [], .slice ao34 ((pgetS u0 u1).2.2.1).length cap35⟩, ⟨8, [], .int .i64 ((pgetS u0 u1).2.2.2.1)⟩, ⟨9, [], .int .i64 (rcheckg u0)⟩, ⟨10, [], .pointer (some ⟨b111, 0, none⟩)⟩, ⟨11, [], .slice none 0 0⟩, ⟨12, [], .slice none 0 0⟩, ⟨13, [], .slice (some ⟨b132, 0, none⟩) 3 3⟩] a1473 := hFx.region (by kernel_rfl) (by kernel_rfl); clear hFx
             refine sqH ?_; intro hQ1486Q hQ1486
             refine s1 hF1485 131 (.pointer (some ⟨b10, 2, none⟩)) ?_; intro a1487 hF1488; clear hF1485
             refine l1 hF1488 hMx 132 5 2 (.int .i64 u0.Next) rfl rfl ?_; intro a1489 hF1490; clear hF1488
             refine s1 hF1490 133 (.int .i64 (w64 (u0.Next + 1))) ?_; intro a1491 hF1492; clear hF1490
             refine s1 hF1492 134 (.int .i64 ((w64 (u0.Next + 1)).tmod 16)) ?_; intro a1493 hF1494; clear hF1492
             refine s1 hF1494 135 (.pointer (some ⟨b111, 2, none⟩)) ?_; intro a1495 hF1496; clear hF1494
             refine sr hF1496 hMx 1 [.int .i64 u0.Want, .slice ao1328 (bconcatS ([u0.Data, u1.drop (1 : Int).toNat] : List (List Int))).length cap1329, .int .i64 ((w64 (u0.Next + 1)).tmod 16), .int .i64 u0.Block, .int .i64 u0.Left] (b := b111) (off := 2) (cs := [.int .i64 u0.Want, .slice ao1328 (bconcatS ([u0.Data, u1.drop (1 : Int).toNat] : List (List Int))).length cap1329, .int .i64 u0.Next, .int .i64 u0.Block, .int .i64 u0.Left]) (ty := 71) (u := .int .i64 ((w64 (u0.Next + 1)).tmod 16)) (nog rfl _) rfl rfl (by kernel_rfl) (by kernel_rfl) (by kernel_rfl) (by kernel_rfl) (by kernel_rfl) (by kernel_rfl) (by kernel_rfl) ?_; intro wd1497 hM1498; clear hMx
             have hM1499 : Mem w.heap.size [] w Z [.row b132 [.int .u8 48, .int .u8 (w8 u0.Block), .int .u8 0] 5, .row b111 [.int .i64 u0.Want, .slice ao1328 (bconcatS ([u0.Data, u1.drop (1 : Int).toNat] : List (List Int))).length cap1329, .int .i64 ((w64 (u0.Next + 1)).tmod 16), .int .i64 u0.Block, .int .i64 u0.Left] 71, .row b53 [.int .i64 (((pgetS u0 u1).1).Want), .slice ao28 (((pgetS u0 u1).1).Data).length cap29, .int .i64 (((pgetS u0 u1).1).Next), .int .i64 (((pgetS u0 u1).1).Block), .int .i64 (((pgetS u0 u1).1).Left)] 71, .own (tyInt .u8) 5 ao31 cap32 ((pgetS u0 u1).2.1), .own (tyInt .u8) 5 ao34 cap35 ((pgetS u0 u1).2.2.1), .row b10 [.int .i64 u0.Want, .slice ao1 u0.Data.length cap2, .int .i64 u0.Next, .int .i64 u0.Block, .int .i64 u0.Left] 71, .own (tyInt .u8) 5 ao1328 cap1329 (bconcatS ([u0.Data, u1.drop (1 : Int).toNat] : List (List Int)))] Z1339 wd1497 := hM1498; clear hM1498
             refine nlH (hQ1486 _ _ ?_); clear hQ1486 hQ1486Q
             refine sqH ?_; intro hQ1500Q hQ1500
             refine s1 hF1496 136 (.pointer (some ⟨b10, 3, none⟩)) ?_; intro a1501 hF1502; clear hF1496
             refine l1 hF1502 hM1499 137 5 3 (.int .i64 u0.Block) rfl rfl ?_; intro a1503 hF1504; clear hF1502
             refine s1 hF1504 138 (.bool (decide (u0.Block > 0))) ?_; intro a1505 hF1506; clear hF1504
             refine nlH (hQ1500 _ _ ?_); clear hQ1500 hQ1500Q
             refine cd hF1506 (t := decide (u0.Block > 0)) (by kernel_rfl) (fun hb1507 => ?_) (fun hb1507 => ?_)
             · -- yes
              have hp1508 := hp1338.1 hb1507; clear hp1338
              refine sqH ?_; intro hQ1509Q hQ1509
              refine s1 hF1506 139 (.pointer (some ⟨b111, 4, none⟩)) ?_; intro a1510 hF1511; clear hF1506
              refine l1 hF1511 hM1499 140 1 4 (.int .i64 u0.Left) rfl rfl ?_; intro a1512 hF1513; clear hF1511
              refine s1 hF1513 141 (.int .i64 (w64 (u0.Left - 1))) ?_; intro a1514 hF1515; clear hF1513
              refine s1 hF1515 142 (.pointer (some ⟨b111, 4, none⟩)) ?_; intro a1516 hF1517; clear hF1515
              refine sr hF1517 hM1499 1 [.int .i64 u0.Want, .slice ao1328 (bconcatS ([u0.Data, u1.drop (1 : Int).toNat] : List (List Int))).length cap1329, .int .i64 ((w64 (u0.Next + 1)).tmod 16), .int .i64 u0.Block, .int .i64 (w64 (u0.Left - 1))] (b := b111) (off := 4) (cs := [.int .i64 u0.Want, .slice ao1328 (bconcatS ([u0.Data, u1.drop (1 : Int).toNat] : List (List Int))).length cap1329, .int .i64 ((w64 (u0.Next + 1)).tmod 16), .int .i64 u0.Block, .int .i64 u0.Left]) (ty := 71) (u := .int .i64 (w64 (u0.Left - 1))) (nog rfl _) rfl rfl (by kernel_rfl) (by kernel_rfl) (by kernel_rfl) (by kernel_rfl) (by kernel_rfl) (by kernel_rfl) (by kernel_rfl) ?_; intro wd1518 hM1519; clear hM1499
              have hM1520 : Mem w.heap.size [] w Z [.row b132 [.int .u8 48, .int .u8 (w8 u0.Block), .int .u8 0] 5, .row b111 [.int .i64 u0.Want, .slice ao1328 (bconcatS ([u0.Data, u1.drop (1 : Int).toNat] : List (List Int))).length cap1329, .int .i64 ((w64 (u0.Next + 1)).tmod 16), .int .i64 u0.Block, .int .i64 (w64 (u0.Left - 1))] 71, .row b53 [.int .i64 (((pgetS u0 u1).1).Want), .slice ao28 (((pgetS u0 u1).1).Data).length cap29, .int .i64 (((pgetS u0 u1).1).Next), .int .i64 (((pgetS u0 u1).1).Block), .int .i64 (((pgetS u0 u1).1).Left)] 71, .own (tyInt .u8) 5 ao31 cap32 ((pgetS u0 u1).2.1), .own (tyInt .u8) 5 ao34 cap35 ((pgetS u0 u1).2.2.1), .row b10 [.int .i64 u0.Want, .slice ao1 u0.Data.length cap2, .int .i64 u0.Next, .int .i64 u0.Block, .int .i64 u0.Left] 71, .own (tyInt .u8) 5 ao1328 cap1329 (bconcatS ([u0.Data, u1.drop (1 : Int).toNat] : List (List Int)))] Z1339 wd1518 := hM1519; clear hM1519
              refine nlH (hQ1509 _ _ ?_); clear hQ1509 hQ1509Q
              refine sqH ?_; intro hQ1521Q hQ1521
              refine s1 hF1517 143 (.pointer (some ⟨b111, 4, none⟩)) ?_; intro a1522 hF1523; clear hF1517
              refine l1 hF1523 hM1520 144 1 4 (.int .i64 (w64 (u0.Left - 1))) rfl rfl ?_; intro a1524 hF1525; clear hF1523
              refine s1 hF1525 145 (.bool ((w64 (u0.Left - 1)) == 0)) ?_; intro a1526 hF1527; clear hF1525
              refine nlH (hQ1521 _ _ ?_); clear hQ1521 hQ1521Q
              refine cd hF1527 (t := (w64 (u0.Left - 1)) == 0) (by kernel_rfl) (fun hb1528 => ?_) (fun hb1528 => ?_)
              · -- yes
               have hp1529 := hp1508.1 hb1528; clear hp1508
               have hF1530 : Fr 229 [] [⟨2, [], .pointer (some ⟨b10, 0, none⟩)⟩, ⟨5, [], .pointer (some ⟨b53, 0, none⟩)⟩, ⟨6, [], .slice ao31 ((pgetS u0 u1).2.1).length cap32⟩, ⟨7, [], .slice ao34 ((pgetS u0 u1).2.2.1).length cap35⟩, ⟨8, [], .int .i64 ((pgetS u0 u1).2.2.2.1)⟩, ⟨9, [], .int .i64 (rcheckg u0)⟩, ⟨10, [], .pointer (some ⟨b111, 0, none⟩)⟩, ⟨12, [], .slice none 0 0⟩, ⟨13, [], .slice (some ⟨b132, 0, none⟩) 3 3⟩] a1526 := hF1527.region (by kernel_rfl) (by kernel_rfl); clear hF1527
               refine rgH ?_; intro hQ1531Q hQ1531
               refine s1 hF1530 146 (.pointer (some ⟨b10, 3, none⟩)) ?_; intro a1532 hF1533; clear hF1530
               refine l1 hF1533 hM1520 147 5 3 (.int .i64 u0.Block) rfl rfl ?_; intro a1534 hF1535; clear hF1533
               refine s1 hF1535 148 (.slice (some ⟨b132, 0, none⟩) 3 3) ?_; intro a1536 hF1537; clear hF1535
               refine s1 hF1537 149 (.pointer (some ⟨b111, 4, none⟩)) ?_; intro a1538 hF1539; clear hF1537
               refine sr hF1539 hM1520 1 [.int .i64 u0.Want, .slice ao1328 (bconcatS ([u0.Data, u1.drop (1 : Int).toNat] : List (List Int))).length cap1329, .int .i64 ((w64 (u0.Next + 1)).tmod 16), .int .i64 u0.Block, .int .i64 u0.Block] (b := b111) (off := 4) (cs := [.int .i64 u0.Want, .slice ao1328 (bconcatS ([u0.Data, u1.drop (1 : Int).toNat] : List (List Int))).length cap1329, .int .i64 ((w64 (u0.Next + 1)).tmod 16), .int .i64 u0.Block, .int .i64 (w64 (u0.Left - 1))]) (ty := 71) (u := .int .i64 u0.Block) (nog rfl _) rfl rfl (by kernel_rfl) (by kernel_rfl) (by kernel_rfl) (by kernel_rfl) (by kernel_rfl) (by kernel_rfl) (by kernel_rfl) ?_; intro wd1540 hM1541; clear hM1520
               refine s1 hF1539 11 (.slice (some ⟨b132, 0, none⟩) 3 3) ?_; intro a1542 hF1543; clear hF1539
               have hM1544 : Mem w.heap.size [] w Z [.row b132 [.int .u8 48, .int .u8 (w8 u0.Block), .int .u8 0] 5, .row b111 [.int .i64 u0.Want, .slice ao1328 (bconcatS ([u0.Data, u1.drop (1 : Int).toNat] : List (List Int))).length cap1329, .int .i64 ((w64 (u0.Next + 1)).tmod 16), .int .i64 u0.Block, .int .i64 u0.Block] 71, .row b53 [.int .i64 (((pgetS u0 u1).1).Want), .slice ao28 (((pgetS u0 u1).1).Data).length cap29, .int .i64 (((pgetS u0 u1).1).Next), .int .i64 (((pgetS u0 u1).1).Block), .int .i64 (((pgetS u0 u1).1).Left)] 71, .own (tyInt .u8) 5 ao31 cap32 ((pgetS u0 u1).2.1), .own (tyInt .u8) 5 ao34 cap35 ((pgetS u0 u1).2.2.1), .row b10 [.int .i64 u0.Want, .slice ao1 u0.Data.length cap2, .int .i64 u0.Next, .int .i64 u0.Block, .int .i64 u0.Left] 71, .own (tyInt .u8) 5 ao1328 cap1329 (bconcatS ([u0.Data, u1.drop (1 : Int).toNat] : List (List Int)))] Z1339 wd1540 := hM1541; clear hM1541
               refine nlH (hQ1531 _ _ ?_); clear hQ1531 hQ1531Q
               refine ibn ?_
               refine ibn ?_
               refine rd ?_
               have hM1545 : Mem w.heap.size [] w Z [.own (tyInt .u8) 5 (some ⟨b132, 0, none⟩) 3 ([48, w8 u0.Block, 0] : List Int), .row b111 [.int .i64 u0.Want, .slice ao1328 (bconcatS ([u0.Data, u1.drop (1 : Int).toNat] : List (List Int))).length cap1329, .int .i64 ((w64 (u0.Next + 1)).tmod 16), .int .i64 u0.Block, .int .i64 u0.Block] 71, .row b53 [.int .i64 (((pgetS u0 u1).1).Want), .slice ao28 (((pgetS u0 u1).1).Data).length cap29, .int .i64 (((pgetS u0 u1).1).Next), .int .i64 (((pgetS u0 u1).1).Block), .int .i64 (((pgetS u0 u1).1).Left)] 71, .own (tyInt .u8) 5 ao31 cap32 ((pgetS u0 u1).2.1), .own (tyInt .u8) 5 ao34 cap35 ((pgetS u0 u1).2.2.1), .row b10 [.int .i64 u0.Want, .slice ao1 u0.Data.length cap2, .int .i64 u0.Next, .int .i64 u0.Block, .int .i64 u0.Left] 71, .own (tyInt .u8) 5 ao1328 cap1329 (bconcatS ([u0.Data, u1.drop (1 : Int).toNat] : List (List Int)))] Z1339 wd1540 := hM1544.rowOwn (T := (tyInt .u8)) (xs := ([48, w8 u0.Block, 0] : List Int)) 0 rfl (by decide) (by show 3 ≤ lim; decide) ((RepAll.one (T := (tyInt .u8)) (x := 48) rfl).append ((RepAll.one (T := (tyInt .u8)) (x := w8 u0.Block) rfl).append (RepAll.one (T := (tyInt .u8)) (x := 0) rfl))); clear hM1544
               obtain ⟨Z1546, hle1547, hM1548, hs1549⟩ := hM1545.freeze 0 rfl
               replace hs1475 := hs1475.mono hle1547
               replace hs1476 := hs1476.mono hle1547
               replace hs1477 := hs1477.mono hle1547
               replace hs1478 := hs1478.mono hle1547
               replace hs1479 := hs1479.mono hle1547
               replace hs1480 := hs1480.mono hle1547
               replace hs1481 := hs1481.mono hle1547
               replace hs1482 := hs1482.mono hle1547
               replace hs1483 := hs1483.mono hle1547
               replace hs1484 := hs1484.mono hle1547
               replace hle0 := Fz.le.trans hle0 hle1547
               have hM1550 : Mem w.heap.size [] w Z [.row b111 [.int .i64 u0.Want, .slice ao1328 (bconcatS ([u0.Data, u1.drop (1 : Int).toNat] : List (List Int))).length cap1329, .int .i64 ((w64 (u0.Next + 1)).tmod 16), .int .i64 u0.Block, .int .i64 u0.Block] 71, .row b53 [.int .i64 (((pgetS u0 u1).1).Want), .slice ao28 (((pgetS u0 u1).1).Data).length cap29, .int .i64 (((pgetS u0 u1).1).Next), .int .i64 (((pgetS u0 u1).1).Block), .int .i64 (((pgetS u0 u1).1).Left)] 71, .own (tyInt .u8) 5 ao31 cap32 ((pgetS u0 u1).2.1), .own (tyInt .u8) 5 ao34 cap35 ((pgetS u0 u1).2.2.1), .row b10 [.int .i64 u0.Want, .slice ao1 u0.Data.length cap2, .int .i64 u0.Next, .int .i64 u0.Block, .int .i64 u0.Left] 71, .own (tyInt .u8) 5 ao1328 cap1329 (bconcatS ([u0.Data, u1.drop (1 : Int).toNat] : List (List Int)))] Z1546 wd1540 := hM1548; clear hM1548
               obtain ⟨Z1551, hle1552, hM1553, hs1554⟩ := hM1550.freeze 5 rfl
               replace hs1475 := hs1475.mono hle1552
               replace hs1476 := hs1476.mono hle1552
               replace hs1477 := hs1477.mono hle1552
               replace hs1478 := hs1478.mono hle1552
               replace hs1479 := hs1479.mono hle1552
               replace hs1480 := hs1480.mono hle1552
               replace hs1481 := hs1481.mono hle1552
               replace hs1482 := hs1482.mono hle1552
               replace hs1483 := hs1483.mono hle1552
               replace hs1484 := hs1484.mono hle1552
               replace hs1549 := hs1549.mono hle1552
               replace hle0 := Fz.le.trans hle0 hle1552
               have hM1555 : Mem w.heap.size [] w Z [.row b111 [.int .i64 u0.Want, .slice ao1328 (bconcatS ([u0.Data, u1.drop (1 : Int).toNat] : List (List Int))).length cap1329, .int .i64 ((w64 (u0.Next + 1)).tmod 16), .int .i64 u0.Block, .int .i64 u0.Block] 71, .row b53 [.int .i64 (((pgetS u0 u1).1).Want), .slice ao28 (((pgetS u0 u1).1).Data).length cap29, .int .i64 (((pgetS u0 u1).1).Next), .int .i64 (((pgetS u0 u1).1).Block), .int .i64 (((pgetS u0 u1).1).Left)] 71, .own (tyInt .u8) 5 ao31 cap32 ((pgetS u0 u1).2.1), .own (tyInt .u8) 5 ao34 cap35 ((pgetS u0 u1).2.2.1), .row b10 [.int .i64 u0.Want, .slice ao1 u0.Data.length cap2, .int .i64 u0.Next, .int .i64 u0.Block, .int .i64 u0.Left] 71] Z1551 wd1540 := hM1553; clear hM1553
               exact hJ146 (rcheckg u0) ([48, w8 u0.Block, 0] : List Int) [] (⟨u0.Want, (bconcatS ([u0.Data, u1.drop (1 : Int).toNat] : List (List Int))), (w64 (u0.Next + 1)).tmod 16, u0.Block, u0.Block⟩ : Getter) (some ⟨b132, 0, none⟩) 3 none 0 ao1328 cap1329 Z1551 ⟨hp1529, hs1549, (SlR.nil _ _), hs1554, hs1478⟩ _ _ ((hF1543.region (by kernel_rfl) (by kernel_rfl)).anyβ _ (by kernel_rfl)) (hM1555.keep (List.Sublist.cons_cons _ (List.Sublist.cons_cons _ (List.Sublist.cons_cons _ (List.Sublist.cons_cons _ (List.Sublist.cons_cons _ (List.Sublist.slnil)))))))
              · -- no
               have hp1556 := hp1508.2 hb1528; clear hp1508
               refine wp_skip ?_
               refine ibn ?_
               refine ibn ?_
               refine rd ?_
               obtain ⟨Z1557, hle1558, hM1559, hs1560⟩ := hM1520.freeze 6 rfl
               replace hs1475 := hs1475.mono hle1558
               replace hs1476 := hs1476.mono hle1558
               replace hs1477 := hs1477.mono hle1558
               replace hs1478 := hs1478.mono hle1558
               replace hs1479 := hs1479.mono hle1558
               replace hs1480 := hs1480.mono hle1558
               replace hs1481 := hs1481.mono hle1558
               replace hs1482 := hs1482.mono hle1558
               replace hs1483 := hs1483.mono hle1558
               replace hs1484 := hs1484.mono hle1558
               replace hle0 := Fz.le.trans hle0 hle1558
               have hM1561 : Mem w.heap.size [] w Z [.row b132 [.int .u8 48, .int .u8 (w8 u0.Block), .int .u8 0] 5, .row b111 [.int .i64 u0.Want, .slice ao1328 (bconcatS ([u0.Data, u1.drop (1 : Int).toNat] : List (List Int))).length cap1329, .int .i64 ((w64 (u0.Next + 1)).tmod 16), .int .i64 u0.Block, .int .i64 (w64 (u0.Left - 1))] 71, .row b53 [.int .i64 (((pgetS u0 u1).1).Want), .slice ao28 (((pgetS u0 u1).1).Data).length cap29, .int .i64 (((pgetS u0 u1).1).Next), .int .i64 (((pgetS u0 u1).1).Block), .int .i64 (((pgetS u0 u1).1).Left)] 71, .own (tyInt .u8) 5 ao31 cap32 ((pgetS u0 u1).2.1), .own (tyInt .u8) 5 ao34 cap35 ((pgetS u0 u1).2.2.1), .row b10 [.int .i64 u0.Want, .slice ao1 u0.Data.length cap2, .int .i64 u0.Next, .int .i64 u0.Block, .int .i64 u0.Left] 71] Z1557 wd1518 := hM1559; clear hM1559
               exact hJ146 (rcheckg u0) [] [] (⟨u0.Want, (bconcatS ([u0.Data, u1.drop (1 : Int).toNat] : List (List Int))), (w64 (u0.Next + 1)).tmod 16, u0.Block, w64 (u0.Left - 1)⟩ : Getter) none 0 none 0 ao1328 cap1329 Z1557 ⟨hp1556, (SlR.nil _ _), (SlR.nil _ _), hs1560, hs1478⟩ _ _ ((hF1527.region (by kernel_rfl) (by kernel_rfl)).anyβ _ (by kernel_rfl)) (hM1561.keep (List.Sublist.cons _ (List.Sublist.cons_cons _ (List.Sublist.cons_cons _ (List.Sublist.cons_cons _ (List.Sublist.cons_cons _ (List.Sublist.cons_cons _ (List.Sublist.slnil))))))))
             · -- no
              have hp1562 := hp1338.2 hb1507; clear hp1338
              refine wp_skip ?_
              refine ibn ?_
              refine ibn ?_
              refine rd ?_
              obtain ⟨Z1563, hle1564, hM1565, hs1566⟩ := hM1499.freeze 6 rfl
              replace hs1475 := hs1475.mono hle1564
              replace hs1476 := hs1476.mono hle1564
              replace hs1477 := hs1477.mono hle1564
              replace hs1478 := hs1478.mono hle1564
              replace hs1479 := hs1479.mono hle1564
              replace hs1480 := hs1480.mono hle1564
              replace hs1481 := hs1481.mono hle1564
              replace hs1482 := hs1482.mono hle1564
              replace hs1483 := hs1483.mono hle1564
              replace hs1484 := hs1484.mono hle1564
              replace hle0 := Fz.le.trans hle0 hle1564
              have hM1567 : Mem w.heap.size [] w Z [.row b132 [.int .u8 48, .int .u8 (w8 u0.Block), .int .u8 0] 5, .row b111 [.int .i64 u0.Want, .slice ao1328 (bconcatS ([u0.Data, u1.drop (1 : Int).toNat] : List (List Int))).length cap1329, .int .i64 ((w64 (u0.Next + 1)).tmod 16), .int .i64 u0.Block, .int .i64 u0.Left] 71, .row b53 [.int .i64 (((pgetS u0 u1).1).Want), .slice ao28 (((pgetS u0 u1).1).Data).length cap29, .int .i64 (((pgetS u0 u1).1).Next), .int .i64 (((pgetS u0 u1).1).Block), .int .i64 (((pgetS u0 u1).1).Left)] 71, .own (tyInt .u8) 5 ao31 cap32 ((pgetS u0 u1).2.1), .own (tyInt .u8) 5 ao34 cap35 ((pgetS u0 u1).2.2.1), .row b10 [.int .i64 u0.Want, .slice ao1 u0.Data.length cap2, .int .i64 u0.Next, .int .i64 u0.Block, .int .i64 u0.Left] 71] Z1563 wd1497 := hM1565; clear hM1565
              exact hJ146 (rcheckg u0) [] [] (⟨u0.Want, (bconcatS ([u0.Data, u1.drop (1 : Int).toNat] : List (List Int))), (w64 (u0.Next + 1)).tmod 16, u0.Block, u0.Left⟩ : Getter) none 0 none 0 ao1328 cap1329 Z1563 ⟨hp1562, (SlR.nil _ _), (SlR.nil _ _), hs1566, hs1478⟩ _ _ ((hF1506.region (by kernel_rfl) (by kernel_rfl)).anyβ _ (by kernel_rfl)) (hM1567.keep (List.Sublist.cons _ (List.Sublist.cons_cons _ (List.Sublist.cons_cons _ (List.Sublist.cons_cons _ (List.Sublist.cons_cons _ (List.Sublist.cons_cons _ (List.Sublist.slnil))))))))
       · -- no
        have hp1568 := hp988.2 hb995; clear hp988
        refine rgH ?_; intro hQ1569Q hQ1569
        refine s1 hF994 9 (.int .i64 8) ?_; intro a1570 hF1571; clear hF994
        refine nlH (hQ1569 _ _ ?_); clear hQ1569 hQ1569Q
        refine ibn ?_
        refine rd ?_
        exact hJ146 8 [] [] (⟨0, [], 0, u0.Block, 0⟩ : Getter) none 0 none 0 none 0 Z37 ⟨hp1568, (SlR.nil _ _), (SlR.nil _ _), (SlR.nil _ _), hle264⟩ _ _ ((hF1571.region (by kernel_rfl) (by kernel_rfl)).anyβ _ (by kernel_rfl)) (hM136.keep (List.Sublist.cons _ (List.Sublist.cons_cons _ (List.Sublist.cons_cons _ (List.Sublist.cons_cons _ (List.Sublist.cons_cons _ (List.Sublist.cons_cons _ (List.Sublist.slnil))))))))

end Go.Proofs.Ytkogkombalcgeaa
