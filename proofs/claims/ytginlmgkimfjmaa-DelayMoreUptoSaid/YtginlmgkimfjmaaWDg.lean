/- The walks, made by program: each call does what its pure predicate says. -/
import Derived.Test.YtginlmgkimfjmaaPDg
import Derived.Test.YtginlmgkimfjmaaWDf
set_option linter.unusedVariables false
set_option linter.unusedSimpArgs false
namespace Go.Proofs.Ytginlmgkimfjmaa
open Go.Sy Go.RowKit
theorem dlong_fun (u0 : Task)  (Z : Fz) (w : World)  (hZ : Z.on w) : Calls Try.prog 81 #[.agg #[.int .i64 u0.ID, .int .i64 u0.Bytes, .int .i64 u0.Every, .int .i64 u0.Late, .int .i64 u0.Jitter]] w fun e w' => e = .returned (.int .i64 (dlongS u0)) ∧ Below w.heap.size w w' :=
  (dlong_walk u0  Z w  hZ (dlong_ok u0)).mono fun _ _ ⟨r, he, hk, hb⟩ => ⟨by subst hk; exact he, hb⟩

set_option maxRecDepth 100000 in
set_option maxHeartbeats 0 in
theorem dw1_walk (u0 : Int) (u1 : Int) (u2 : List Task) (u3 : Int) (cb1 co2 : Nat) (cb7 co8 : Nat) (ao4 : Option Addr) (cap5 : Nat) (cb10 co11 : Nat) (Z : Fz) (w : World) (hP3 : PtR Z cb1 co2 [.int .i64 u1]) (hP9 : PtR Z cb7 co8 [.slice ao4 u2.length cap5]) (hs6 : SlR tyTask Z ao4 cap5 u2) (hP12 : PtR Z cb10 co11 [.int .i64 u3]) (hZ : Z.on w) {K : Int → Prop} (hp : dw1_vc u0 u1 u2 u3 K) : Calls Try.prog 83 #[.int .i64 u0, .pointer (some ⟨cb1, co2, none⟩), .pointer (some ⟨cb7, co8, none⟩), .pointer (some ⟨cb10, co11, none⟩)] w fun e w' => ∃ r : Int, e = .returned (.int .i64 r) ∧ K r ∧ Below w.heap.size w w' := by
 refine enter0 Try.func83 rfl rfl (by kernel_rfl) ?_; intro a0 hF0; have hM0 := Mem.start w Z hZ; have hle0 := Fz.le.refl Z
 refine sqH ?_; intro hQ13Q hQ13
 refine s1 hF0 5 (.int .i64 0) ?_; intro a14 hF15; clear hF0
 refine nlH (hQ13 _ _ ?_); clear hQ13 hQ13Q
 refine sqH ?_; intro hQ16Q hQ16
 refine z1 hF15 hM0 9 hP3 0 (.int .i64 u1) rfl ?_; intro a17 hF18; clear hF15
 refine s1 hF18 6 (.int .i64 u1) ?_; intro a19 hF20; clear hF18
 refine nlH (hQ16 _ _ ?_); clear hQ16 hQ16Q
 refine wp_seq ?_
 refine sqH ?_; intro hQ21Q hQ21
 refine z1 hF20 hM0 10 hP9 0 (.slice ao4 u2.length cap5) rfl ?_; intro a22 hF23; clear hF20
 refine z1 hF23 hM0 11 hP12 0 (.int .i64 u3) rfl ?_; intro a24 hF25; clear hF23
 refine s1 hF25 12 (.int .i64 (w64 (u3 + 1))) ?_; intro a26 hF27; clear hF25
 have hc28 := hp.1; have hp29 := hp.2; clear hp
 refine slH hF27 (T := tyTask) (xs := u2) hs6 (w64 (u3 + 1)) hc28 (k' := .i64) (e := 34) (bytes := 40) (nog rfl _) rfl (by kernel_rfl) rfl (by kernel_rfl) (by kernel_rfl) (by kernel_rfl) ?_; intro ao30 cap31 a34 hn32 hs33 hF35; clear hF27
 refine s1 hF35 14 (.int .i64 ((u2.take (w64 (u3 + 1)).toNat).length : Int)) ?_; intro a36 hF37; clear hF35
 refine s1 hF37 15 (.int .i64 0) ?_; intro a38 hF39; clear hF37
 refine nlH (hQ21 _ _ ?_); clear hQ21 hQ21Q
 refine wp_block ?_
 have hF40 : Fr 29 [] [⟨0, [], .int .i64 u0⟩, ⟨6, [], .int .i64 u1⟩, ⟨13, [], .slice ao30 (u2.take (w64 (u3 + 1)).toNat).length cap31⟩, ⟨14, [], .int .i64 ((u2.take (w64 (u3 + 1)).toNat).length : Int)⟩, ⟨15, [], .int .i64 0⟩] a38 := hF39.region (by kernel_rfl) (by kernel_rfl); clear hF39
 have hF42 : Fr 29 [] [⟨0, [], .int .i64 u0⟩, ⟨6, [], .int .i64 u1⟩, ⟨13, [], .slice ao30 (u2.take (w64 (u3 + 1)).toNat).length cap31⟩, ⟨14, [], .int .i64 ((u2.take (w64 (u3 + 1)).toNat).length : Int)⟩, ⟨15, [], .int .i64 0⟩] a38 := hF40.region (by kernel_rfl) (by kernel_rfl); clear hF40
 obtain ⟨inv41, mu41, hI45, hr44⟩ := hp29
 refine lp (ι := Int × Int) (fun (s : Int × Int) => [⟨0, [], .int .i64 u0⟩, ⟨6, [], .int .i64 s.1⟩, ⟨13, [], .slice ao30 (u2.take (w64 (u3 + 1)).toNat).length cap31⟩, ⟨14, [], .int .i64 ((u2.take (w64 (u3 + 1)).toNat).length : Int)⟩, ⟨15, [], .int .i64 s.2⟩]) (fun (s : Int × Int) => []) (fun (s : Int × Int) => Z) (fun (s : Int × Int) => inv41 s.1 s.2) (fun (s : Int × Int) => mu41 s.1 s.2) ⟨u1, 0⟩ hI45 (by exact hF42.region (by kernel_rfl) (by kernel_rfl)) (by exact hM0) ?_
 rintro ⟨x6, x15⟩ hI43 a47 wd48 hF49 hM50
 have hF51 : Fr 29 [] [⟨0, [], .int .i64 u0⟩, ⟨6, [], .int .i64 x6⟩, ⟨13, [], .slice ao30 (u2.take (w64 (u3 + 1)).toNat).length cap31⟩, ⟨14, [], .int .i64 ((u2.take (w64 (u3 + 1)).toNat).length : Int)⟩, ⟨15, [], .int .i64 x15⟩] a47 := hF49; clear hF49 hF42
 have hM52 : Mem w.heap.size [] w Z [] Z wd48 := hM50; clear hM50 hM0
 have hp53 := hr44 x6 x15 hI43
 refine sqH ?_; intro hQ54Q hQ54
 refine s1 hF51 16 (.bool (decide (x15 < ((u2.take (w64 (u3 + 1)).toNat).length : Int)))) ?_; intro a55 hF56; clear hF51
 refine nlH (hQ54 _ _ ?_); clear hQ54 hQ54Q
 refine wp_seq ?_
 refine cd hF56 (t := decide (x15 < ((u2.take (w64 (u3 + 1)).toNat).length : Int))) (by kernel_rfl) (fun hb57 => ?_) (fun hb57 => ?_)
 · -- yes
  have hp58 := hp53.1 hb57; clear hp53
  refine wp_skip ?_
  refine thn ?_
  refine wp_seq ?_
  refine wp_block ?_
  refine sqH ?_; intro hQ59Q hQ59
  have hc60 := hp58.1; have hp61 := hp58.2; clear hp58
  refine ix hF56 (T := tyTask) (xs := u2.take (w64 (u3 + 1)).toNat) hs33 x15 hc60 (k := .i64) (e := 34) (bytes := 40) (nog rfl _) rfl (by kernel_rfl) rfl (by kernel_rfl) (by kernel_rfl) (by kernel_rfl) ?_; intro b62 off63 cs64 q65 a69 hq66 hP67 hT68 hF70; clear hF56
  have hp71 := hp61 q65 hq66; clear hp61
  obtain rfl : cs64 = ([.int .i64 q65.ID, .int .i64 q65.Bytes, .int .i64 q65.Every, .int .i64 q65.Late, .int .i64 q65.Jitter] : List Value) := hT68
  refine z2 hF70 hM52 18 hP67 0 5 [.int .i64 q65.ID, .int .i64 q65.Bytes, .int .i64 q65.Every, .int .i64 q65.Late, .int .i64 q65.Jitter] rfl ?_; intro a72 hF73; clear hF70
  refine sn hF73 hM52 (fun b => .pointer (some ⟨b, 0, none⟩)) [.int .i64 0, .int .i64 0, .int .i64 0, .int .i64 0, .int .i64 0] 34 (nog rfl _) rfl (by kernel_rfl) (by kernel_rfl) ?_; intro b74 a75 wd77 hF76 hM78; clear hF73 hM52
  refine sr hF76 hM78 0 [.int .i64 q65.ID, .int .i64 q65.Bytes, .int .i64 q65.Every, .int .i64 q65.Late, .int .i64 q65.Jitter] (b := b74) (off := 0) (cs := [.int .i64 0, .int .i64 0, .int .i64 0, .int .i64 0, .int .i64 0]) (ty := 34) (u := .agg #[.int .i64 q65.ID, .int .i64 q65.Bytes, .int .i64 q65.Every, .int .i64 q65.Late, .int .i64 q65.Jitter]) (nog rfl _) rfl rfl (by kernel_rfl) (by kernel_rfl) (by kernel_rfl) (by kernel_rfl) (by kernel_rfl) (by kernel_rfl) (by kernel_rfl) ?_; intro wd79 hM80; clear hM78
  have hM81 : Mem w.heap.size [] w Z [.row b74 [.int .i64 q65.ID, .int .i64 q65.Bytes, .int .i64 q65.Every, .int .i64 q65.Late, .int .i64 q65.Jitter] 34] Z wd79 := hM80; clear hM80
  refine nlH (hQ59 _ _ ?_); clear hQ59 hQ59Q
  have hF82 : Fr 29 [] [⟨0, [], .int .i64 u0⟩, ⟨6, [], .int .i64 x6⟩, ⟨8, [], .pointer (some ⟨b74, 0, none⟩)⟩, ⟨13, [], .slice ao30 (u2.take (w64 (u3 + 1)).toNat).length cap31⟩, ⟨14, [], .int .i64 ((u2.take (w64 (u3 + 1)).toNat).length : Int)⟩, ⟨15, [], .int .i64 x15⟩] a75 := hF76.region (by kernel_rfl) (by kernel_rfl); clear hF76
  refine qrgH mixed (by kernel_rfl) hM81 ?_; intro hQ83Q hQ83
  refine q1 hF82 19 (.int .i64 x6) ?_; intro a85 hF86; clear hF82
  refine qst hF86 (.agg #[.int .i64 q65.ID, .int .i64 q65.Bytes, .int .i64 q65.Every, .int .i64 q65.Late, .int .i64 q65.Jitter]) (nog rfl _) rfl (by kernel_rfl) (fun v87 hC => lda hF86 hC 0 (g := []) (b := b74) (off := 0) (k := 5) (cs := [.int .i64 q65.ID, .int .i64 q65.Bytes, .int .i64 q65.Every, .int .i64 q65.Late, .int .i64 q65.Jitter]) (vs := [.int .i64 q65.ID, .int .i64 q65.Bytes, .int .i64 q65.Every, .int .i64 q65.Late, .int .i64 q65.Jitter]) (ty := 34) rfl (by kernel_rfl) (by kernel_rfl) (by kernel_rfl) (by kernel_rfl) (by kernel_rfl) rfl) ?_; intro a88 hF89; clear hF86
  refine q1 hF89 21 (.int .i64 u0) ?_; intro a91 hF92; clear hF89
  have hc94 := hp71.1; have hp95 := hp71.2; clear hp71
  refine qcl hF92 (.int .i64 (dasksS q65 u0 false)) 84 #[.agg #[.int .i64 q65.ID, .int .i64 q65.Bytes, .int .i64 q65.Every, .int .i64 q65.Late, .int .i64 q65.Jitter], .int .i64 u0, .bool false] (nog rfl _) rfl (by kernel_rfl) (fun _ => by kernel_rfl) (qfc fun w hC => dasks_fun q65 u0 false hc94 _ _ hC.fz) ?_; intro a96 hF97; clear hF92
  refine qst hF97 (.agg #[.int .i64 q65.ID, .int .i64 q65.Bytes, .int .i64 q65.Every, .int .i64 q65.Late, .int .i64 q65.Jitter]) (nog rfl _) rfl (by kernel_rfl) (fun v98 hC => lda hF97 hC 0 (g := []) (b := b74) (off := 0) (k := 5) (cs := [.int .i64 q65.ID, .int .i64 q65.Bytes, .int .i64 q65.Every, .int .i64 q65.Late, .int .i64 q65.Jitter]) (vs := [.int .i64 q65.ID, .int .i64 q65.Bytes, .int .i64 q65.Every, .int .i64 q65.Late, .int .i64 q65.Jitter]) (ty := 34) rfl (by kernel_rfl) (by kernel_rfl) (by kernel_rfl) (by kernel_rfl) (by kernel_rfl) rfl) ?_; intro a99 hF100; clear hF97
  refine qcl hF100 (.int .i64 (dlongS q65)) 81 #[.agg #[.int .i64 q65.ID, .int .i64 q65.Bytes, .int .i64 q65.Every, .int .i64 q65.Late, .int .i64 q65.Jitter]] (nog rfl _) rfl (by kernel_rfl) (fun _ => by kernel_rfl) (qfc fun w hC => dlong_fun q65 _ _ hC.fz) ?_; intro a102 hF103; clear hF100
  refine q1 hF103 25 (.int .i64 (w64 ((dasksS q65 u0 false) * (dlongS q65)))) ?_; intro a105 hF106; clear hF103
  refine q1 hF106 26 (.int .i64 (w64 (x6 + (w64 ((dasksS q65 u0 false) * (dlongS q65)))))) ?_; intro a108 hF109; clear hF106
  refine q1 hF109 6 (.int .i64 (w64 (x6 + (w64 ((dasksS q65 u0 false) * (dlongS q65)))))) ?_; intro a111 hF112; clear hF109
  refine qnl (hQ83 _ ?_); clear hQ83 hQ83Q; intro wd113 hM114; clear hM81
  refine ibn ?_
  refine thn ?_
  refine rgH ?_; intro hQ115Q hQ115
  refine s1 hF112 27 (.int .i64 (w64 (x15 + 1))) ?_; intro a116 hF117; clear hF112
  refine s1 hF117 15 (.int .i64 (w64 (x15 + 1))) ?_; intro a118 hF119; clear hF117
  refine nlH (hQ115 _ _ ?_); clear hQ115 hQ115Q
  refine rd ?_
  exact ⟨⟨w64 (x6 + (w64 ((dasksS q65 u0 false) * (dlongS q65)))), w64 (x15 + 1)⟩, hp95.1, hp95.2, (hF119.region (by kernel_rfl) (by kernel_rfl)).anyβ _ (by kernel_rfl), hM114.keep (List.Sublist.cons _ (List.Sublist.slnil))⟩
 · -- no
  have hp120 := hp53.2 hb57; clear hp53
  refine wp_exit ?_
  refine thx ?_
  refine thx ?_
  refine ibx ?_
  refine thn ?_
  refine sqH ?_; intro hQ121Q hQ121
  refine s1 hF56 28 (.int .i64 x6) ?_; intro a122 hF123; clear hF56
  refine s1 hF123 5 (.int .i64 x6) ?_; intro a124 hF125; clear hF123
  refine nlH (hQ121 _ _ ?_); clear hQ121 hQ121Q
  refine wp_ret ?_
  refine rt (fn := Try.f83) (v := .int .i64 x6) hF125 (re1 hF125 (fn := Try.f83) rfl (by kernel_rfl)) ?_
  exact ⟨x6, rfl, hp120, hM52.below⟩

set_option maxRecDepth 100000 in
set_option maxHeartbeats 0 in
theorem dw2_walk (u0 : Int) (u1 : Int) (u2 : Int) (u3 : Task) (u4 : List Task) (u5 : Int) (cb1 co2 : Nat) (cb4 co5 : Nat) (cb7 co8 : Nat) (cb13 co14 : Nat) (ao10 : Option Addr) (cap11 : Nat) (cb16 co17 : Nat) (Z : Fz) (w : World) (hP3 : PtR Z cb1 co2 [.int .i64 u1]) (hP6 : PtR Z cb4 co5 [.int .i64 u2]) (hP9 : PtR Z cb7 co8 [.int .i64 u3.ID, .int .i64 u3.Bytes, .int .i64 u3.Every, .int .i64 u3.Late, .int .i64 u3.Jitter]) (hP15 : PtR Z cb13 co14 [.slice ao10 u4.length cap11]) (hs12 : SlR tyTask Z ao10 cap11 u4) (hP18 : PtR Z cb16 co17 [.int .i64 u5]) (hZ : Z.on w) {K : Int → Prop} (hp : dw2_vc u0 u1 u2 u3 u4 u5 K) : Calls Try.prog 85 #[.int .i64 u0, .pointer (some ⟨cb1, co2, none⟩), .pointer (some ⟨cb4, co5, none⟩), .pointer (some ⟨cb7, co8, none⟩), .pointer (some ⟨cb13, co14, none⟩), .pointer (some ⟨cb16, co17, none⟩)] w fun e w' => ∃ r : Int, e = .returned (.int .i64 r) ∧ K r ∧ Below w.heap.size w w' := by
 refine enter0 Try.func85 rfl rfl (by kernel_rfl) ?_; intro a0 hF0; have hM0 := Mem.start w Z hZ; have hle0 := Fz.le.refl Z
 refine sqH ?_; intro hQ19Q hQ19
 refine s1 hF0 7 (.int .i64 0) ?_; intro a20 hF21; clear hF0
 refine nlH (hQ19 _ _ ?_); clear hQ19 hQ19Q
 have hF22 : Fr 35 [] [⟨0, [], .int .i64 u0⟩, ⟨1, [], .pointer (some ⟨cb1, co2, none⟩)⟩, ⟨2, [], .pointer (some ⟨cb4, co5, none⟩)⟩, ⟨3, [], .pointer (some ⟨cb7, co8, none⟩)⟩, ⟨4, [], .pointer (some ⟨cb13, co14, none⟩)⟩, ⟨5, [], .pointer (some ⟨cb16, co17, none⟩)⟩] a20 := hF21.region (by kernel_rfl) (by kernel_rfl); clear hF21
 refine sqQH mixed (by kernel_rfl) hM0 ?_; intro hQ23Q hQ23
 refine qst hF22 (.int .i64 u1) (nog rfl _) rfl (by kernel_rfl) (fun v24 hC => lz hF22 hC.fz hP3 0 (g := []) rfl (by kernel_rfl) (by kernel_rfl) (by kernel_rfl) rfl) ?_; intro a25 hF26; clear hF22
 refine qst hF26 (.int .i64 u2) (nog rfl _) rfl (by kernel_rfl) (fun v27 hC => lz hF26 hC.fz hP6 0 (g := []) rfl (by kernel_rfl) (by kernel_rfl) (by kernel_rfl) rfl) ?_; intro a28 hF29; clear hF26
 refine qst hF29 (.agg #[.int .i64 u3.ID, .int .i64 u3.Bytes, .int .i64 u3.Every, .int .i64 u3.Late, .int .i64 u3.Jitter]) (nog rfl _) rfl (by kernel_rfl) (fun v30 hC => lza hF29 hC.fz hP9 0 (g := []) (m := 5) (vs := [.int .i64 u3.ID, .int .i64 u3.Bytes, .int .i64 u3.Every, .int .i64 u3.Late, .int .i64 u3.Jitter]) rfl (by kernel_rfl) (by kernel_rfl) (by kernel_rfl) (by kernel_rfl) rfl) ?_; intro a31 hF32; clear hF29
 refine qcl hF32 (.int .i64 (dlongS u3)) 81 #[.agg #[.int .i64 u3.ID, .int .i64 u3.Bytes, .int .i64 u3.Every, .int .i64 u3.Late, .int .i64 u3.Jitter]] (nog rfl _) rfl (by kernel_rfl) (fun _ => by kernel_rfl) (qfc fun w hC => dlong_fun u3 _ _ hC.fz) ?_; intro a34 hF35; clear hF32
 refine q1 hF35 15 (.int .i64 (w64 (u2 * (dlongS u3)))) ?_; intro a37 hF38; clear hF35
 refine q1 hF38 16 (.int .i64 (w64 (u1 + (w64 (u2 * (dlongS u3)))))) ?_; intro a40 hF41; clear hF38
 refine q1 hF41 8 (.int .i64 (w64 (u1 + (w64 (u2 * (dlongS u3)))))) ?_; intro a43 hF44; clear hF41
 refine qnl (hQ23 _ ?_); clear hQ23 hQ23Q; intro wd45 hM46; clear hM0
 refine wp_seq ?_
 refine sqH ?_; intro hQ47Q hQ47
 refine z1 hF44 hM46 17 hP15 0 (.slice ao10 u4.length cap11) rfl ?_; intro a48 hF49; clear hF44
 refine z1 hF49 hM46 18 hP18 0 (.int .i64 u5) rfl ?_; intro a50 hF51; clear hF49
 have hc52 := hp.1; have hp53 := hp.2; clear hp
 refine slH hF51 (T := tyTask) (xs := u4) hs12 u5 hc52 (k' := .i64) (e := 34) (bytes := 40) (nog rfl _) rfl (by kernel_rfl) rfl (by kernel_rfl) (by kernel_rfl) (by kernel_rfl) ?_; intro ao54 cap55 a58 hn56 hs57 hF59; clear hF51
 refine s1 hF59 20 (.int .i64 ((u4.take u5.toNat).length : Int)) ?_; intro a60 hF61; clear hF59
 refine s1 hF61 21 (.int .i64 0) ?_; intro a62 hF63; clear hF61
 refine nlH (hQ47 _ _ ?_); clear hQ47 hQ47Q
 refine wp_block ?_
 have hF64 : Fr 35 [] [⟨0, [], .int .i64 u0⟩, ⟨8, [], .int .i64 (w64 (u1 + (w64 (u2 * (dlongS u3)))))⟩, ⟨19, [], .slice ao54 (u4.take u5.toNat).length cap55⟩, ⟨20, [], .int .i64 ((u4.take u5.toNat).length : Int)⟩, ⟨21, [], .int .i64 0⟩] a62 := hF63.region (by kernel_rfl) (by kernel_rfl); clear hF63
 have hF66 : Fr 35 [] [⟨0, [], .int .i64 u0⟩, ⟨8, [], .int .i64 (w64 (u1 + (w64 (u2 * (dlongS u3)))))⟩, ⟨19, [], .slice ao54 (u4.take u5.toNat).length cap55⟩, ⟨20, [], .int .i64 ((u4.take u5.toNat).length : Int)⟩, ⟨21, [], .int .i64 0⟩] a62 := hF64.region (by kernel_rfl) (by kernel_rfl); clear hF64
 obtain ⟨inv65, mu65, hI69, hr68⟩ := hp53
 refine lp (ι := Int × Int) (fun (s : Int × Int) => [⟨0, [], .int .i64 u0⟩, ⟨8, [], .int .i64 s.1⟩, ⟨19, [], .slice ao54 (u4.take u5.toNat).length cap55⟩, ⟨20, [], .int .i64 ((u4.take u5.toNat).length : Int)⟩, ⟨21, [], .int .i64 s.2⟩]) (fun (s : Int × Int) => []) (fun (s : Int × Int) => Z) (fun (s : Int × Int) => inv65 s.1 s.2) (fun (s : Int × Int) => mu65 s.1 s.2) ⟨w64 (u1 + (w64 (u2 * (dlongS u3)))), 0⟩ hI69 (by exact hF66.region (by kernel_rfl) (by kernel_rfl)) (by exact hM46) ?_
 rintro ⟨x8, x21⟩ hI67 a71 wd72 hF73 hM74
 have hF75 : Fr 35 [] [⟨0, [], .int .i64 u0⟩, ⟨8, [], .int .i64 x8⟩, ⟨19, [], .slice ao54 (u4.take u5.toNat).length cap55⟩, ⟨20, [], .int .i64 ((u4.take u5.toNat).length : Int)⟩, ⟨21, [], .int .i64 x21⟩] a71 := hF73; clear hF73 hF66
 have hM76 : Mem w.heap.size [] w Z [] Z wd72 := hM74; clear hM74 hM46
 have hp77 := hr68 x8 x21 hI67
 refine sqH ?_; intro hQ78Q hQ78
 refine s1 hF75 22 (.bool (decide (x21 < ((u4.take u5.toNat).length : Int)))) ?_; intro a79 hF80; clear hF75
 refine nlH (hQ78 _ _ ?_); clear hQ78 hQ78Q
 refine wp_seq ?_
 refine cd hF80 (t := decide (x21 < ((u4.take u5.toNat).length : Int))) (by kernel_rfl) (fun hb81 => ?_) (fun hb81 => ?_)
 · -- yes
  have hp82 := hp77.1 hb81; clear hp77
  refine wp_skip ?_
  refine thn ?_
  refine wp_seq ?_
  refine wp_block ?_
  refine sqH ?_; intro hQ83Q hQ83
  have hc84 := hp82.1; have hp85 := hp82.2; clear hp82
  refine ix hF80 (T := tyTask) (xs := u4.take u5.toNat) hs57 x21 hc84 (k := .i64) (e := 34) (bytes := 40) (nog rfl _) rfl (by kernel_rfl) rfl (by kernel_rfl) (by kernel_rfl) (by kernel_rfl) ?_; intro b86 off87 cs88 q89 a93 hq90 hP91 hT92 hF94; clear hF80
  have hp95 := hp85 q89 hq90; clear hp85
  obtain rfl : cs88 = ([.int .i64 q89.ID, .int .i64 q89.Bytes, .int .i64 q89.Every, .int .i64 q89.Late, .int .i64 q89.Jitter] : List Value) := hT92
  refine z2 hF94 hM76 24 hP91 0 5 [.int .i64 q89.ID, .int .i64 q89.Bytes, .int .i64 q89.Every, .int .i64 q89.Late, .int .i64 q89.Jitter] rfl ?_; intro a96 hF97; clear hF94
  refine sn hF97 hM76 (fun b => .pointer (some ⟨b, 0, none⟩)) [.int .i64 0, .int .i64 0, .int .i64 0, .int .i64 0, .int .i64 0] 34 (nog rfl _) rfl (by kernel_rfl) (by kernel_rfl) ?_; intro b98 a99 wd101 hF100 hM102; clear hF97 hM76
  refine sr hF100 hM102 0 [.int .i64 q89.ID, .int .i64 q89.Bytes, .int .i64 q89.Every, .int .i64 q89.Late, .int .i64 q89.Jitter] (b := b98) (off := 0) (cs := [.int .i64 0, .int .i64 0, .int .i64 0, .int .i64 0, .int .i64 0]) (ty := 34) (u := .agg #[.int .i64 q89.ID, .int .i64 q89.Bytes, .int .i64 q89.Every, .int .i64 q89.Late, .int .i64 q89.Jitter]) (nog rfl _) rfl rfl (by kernel_rfl) (by kernel_rfl) (by kernel_rfl) (by kernel_rfl) (by kernel_rfl) (by kernel_rfl) (by kernel_rfl) ?_; intro wd103 hM104; clear hM102
  have hM105 : Mem w.heap.size [] w Z [.row b98 [.int .i64 q89.ID, .int .i64 q89.Bytes, .int .i64 q89.Every, .int .i64 q89.Late, .int .i64 q89.Jitter] 34] Z wd103 := hM104; clear hM104
  refine nlH (hQ83 _ _ ?_); clear hQ83 hQ83Q
  have hF106 : Fr 35 [] [⟨0, [], .int .i64 u0⟩, ⟨8, [], .int .i64 x8⟩, ⟨10, [], .pointer (some ⟨b98, 0, none⟩)⟩, ⟨19, [], .slice ao54 (u4.take u5.toNat).length cap55⟩, ⟨20, [], .int .i64 ((u4.take u5.toNat).length : Int)⟩, ⟨21, [], .int .i64 x21⟩] a99 := hF100.region (by kernel_rfl) (by kernel_rfl); clear hF100
  refine qrgH mixed (by kernel_rfl) hM105 ?_; intro hQ107Q hQ107
  refine q1 hF106 25 (.int .i64 x8) ?_; intro a109 hF110; clear hF106
  refine qst hF110 (.agg #[.int .i64 q89.ID, .int .i64 q89.Bytes, .int .i64 q89.Every, .int .i64 q89.Late, .int .i64 q89.Jitter]) (nog rfl _) rfl (by kernel_rfl) (fun v111 hC => lda hF110 hC 0 (g := []) (b := b98) (off := 0) (k := 5) (cs := [.int .i64 q89.ID, .int .i64 q89.Bytes, .int .i64 q89.Every, .int .i64 q89.Late, .int .i64 q89.Jitter]) (vs := [.int .i64 q89.ID, .int .i64 q89.Bytes, .int .i64 q89.Every, .int .i64 q89.Late, .int .i64 q89.Jitter]) (ty := 34) rfl (by kernel_rfl) (by kernel_rfl) (by kernel_rfl) (by kernel_rfl) (by kernel_rfl) rfl) ?_; intro a112 hF113; clear hF110
  refine q1 hF113 27 (.int .i64 u0) ?_; intro a115 hF116; clear hF113
  have hc118 := hp95.1; have hp119 := hp95.2; clear hp95
  refine qcl hF116 (.int .i64 (dasksS q89 u0 true)) 84 #[.agg #[.int .i64 q89.ID, .int .i64 q89.Bytes, .int .i64 q89.Every, .int .i64 q89.Late, .int .i64 q89.Jitter], .int .i64 u0, .bool true] (nog rfl _) rfl (by kernel_rfl) (fun _ => by kernel_rfl) (qfc fun w hC => dasks_fun q89 u0 true hc118 _ _ hC.fz) ?_; intro a120 hF121; clear hF116
  refine qst hF121 (.agg #[.int .i64 q89.ID, .int .i64 q89.Bytes, .int .i64 q89.Every, .int .i64 q89.Late, .int .i64 q89.Jitter]) (nog rfl _) rfl (by kernel_rfl) (fun v122 hC => lda hF121 hC 0 (g := []) (b := b98) (off := 0) (k := 5) (cs := [.int .i64 q89.ID, .int .i64 q89.Bytes, .int .i64 q89.Every, .int .i64 q89.Late, .int .i64 q89.Jitter]) (vs := [.int .i64 q89.ID, .int .i64 q89.Bytes, .int .i64 q89.Every, .int .i64 q89.Late, .int .i64 q89.Jitter]) (ty := 34) rfl (by kernel_rfl) (by kernel_rfl) (by kernel_rfl) (by kernel_rfl) (by kernel_rfl) rfl) ?_; intro a123 hF124; clear hF121
  refine qcl hF124 (.int .i64 (dlongS q89)) 81 #[.agg #[.int .i64 q89.ID, .int .i64 q89.Bytes, .int .i64 q89.Every, .int .i64 q89.Late, .int .i64 q89.Jitter]] (nog rfl _) rfl (by kernel_rfl) (fun _ => by kernel_rfl) (qfc fun w hC => dlong_fun q89 _ _ hC.fz) ?_; intro a126 hF127; clear hF124
  refine q1 hF127 31 (.int .i64 (w64 ((dasksS q89 u0 true) * (dlongS q89)))) ?_; intro a129 hF130; clear hF127
  refine q1 hF130 32 (.int .i64 (w64 (x8 + (w64 ((dasksS q89 u0 true) * (dlongS q89)))))) ?_; intro a132 hF133; clear hF130
  refine q1 hF133 8 (.int .i64 (w64 (x8 + (w64 ((dasksS q89 u0 true) * (dlongS q89)))))) ?_; intro a135 hF136; clear hF133
  refine qnl (hQ107 _ ?_); clear hQ107 hQ107Q; intro wd137 hM138; clear hM105
  refine ibn ?_
  refine thn ?_
  refine rgH ?_; intro hQ139Q hQ139
  refine s1 hF136 33 (.int .i64 (w64 (x21 + 1))) ?_; intro a140 hF141; clear hF136
  refine s1 hF141 21 (.int .i64 (w64 (x21 + 1))) ?_; intro a142 hF143; clear hF141
  refine nlH (hQ139 _ _ ?_); clear hQ139 hQ139Q
  refine rd ?_
  exact ⟨⟨w64 (x8 + (w64 ((dasksS q89 u0 true) * (dlongS q89)))), w64 (x21 + 1)⟩, hp119.1, hp119.2, (hF143.region (by kernel_rfl) (by kernel_rfl)).anyβ _ (by kernel_rfl), hM138.keep (List.Sublist.cons _ (List.Sublist.slnil))⟩
 · -- no
  have hp144 := hp77.2 hb81; clear hp77
  refine wp_exit ?_
  refine thx ?_
  refine thx ?_
  refine ibx ?_
  refine thn ?_
  refine sqH ?_; intro hQ145Q hQ145
  refine s1 hF80 34 (.int .i64 x8) ?_; intro a146 hF147; clear hF80
  refine s1 hF147 7 (.int .i64 x8) ?_; intro a148 hF149; clear hF147
  refine nlH (hQ145 _ _ ?_); clear hQ145 hQ145Q
  refine wp_ret ?_
  refine rt (fn := Try.f85) (v := .int .i64 x8) hF149 (re1 hF149 (fn := Try.f85) rfl (by kernel_rfl)) ?_
  exact ⟨x8, rfl, hp144, hM76.below⟩

end Go.Proofs.Ytginlmgkimfjmaa
