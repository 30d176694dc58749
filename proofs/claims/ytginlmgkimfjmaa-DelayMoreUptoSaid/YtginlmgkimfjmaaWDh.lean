/- The walks, made by program: each call does what its pure predicate says. -/
import Derived.Test.YtginlmgkimfjmaaPDh
import Derived.Test.YtginlmgkimfjmaaWDg
set_option linter.unusedVariables false
set_option linter.unusedSimpArgs false
namespace Go.Proofs.Ytginlmgkimfjmaa
open Go.Sy Go.RowKit
theorem dw1_fun (u0 : Int) (u1 : Int) (u2 : List Task) (u3 : Int) (hpre : (0 ≤ u3 ∧ u3 < (u2.length : Int)) ∧ (∀ o ∈ u2, o.Every ≠ 0) ∧ u2.length ≤ 1000000) (cb1 co2 : Nat) (cb7 co8 : Nat) (ao4 : Option Addr) (cap5 : Nat) (cb10 co11 : Nat) (Z : Fz) (w : World) (hP3 : PtR Z cb1 co2 [.int .i64 u1]) (hP9 : PtR Z cb7 co8 [.slice ao4 u2.length cap5]) (hs6 : SlR tyTask Z ao4 cap5 u2) (hP12 : PtR Z cb10 co11 [.int .i64 u3]) (hZ : Z.on w) : Calls Try.prog 83 #[.int .i64 u0, .pointer (some ⟨cb1, co2, none⟩), .pointer (some ⟨cb7, co8, none⟩), .pointer (some ⟨cb10, co11, none⟩)] w fun e w' => e = .returned (.int .i64 (dw1S u0 u1 u2 u3)) ∧ Below w.heap.size w w' :=
  (dw1_walk u0 u1 u2 u3 cb1 co2 cb7 co8 ao4 cap5 cb10 co11 Z w hP3 hP9 hs6 hP12 hZ (dw1_ok u0 u1 u2 u3 hpre)).mono fun _ _ ⟨r, he, hk, hb⟩ => ⟨by subst hk; exact he, hb⟩

theorem dw2_fun (u0 : Int) (u1 : Int) (u2 : Int) (u3 : Task) (u4 : List Task) (u5 : Int) (hpre : (0 ≤ u5 ∧ u5 < (u4.length : Int)) ∧ (∀ o ∈ u4, o.Every ≠ 0) ∧ u4.length ≤ 1000000) (cb1 co2 : Nat) (cb4 co5 : Nat) (cb7 co8 : Nat) (cb13 co14 : Nat) (ao10 : Option Addr) (cap11 : Nat) (cb16 co17 : Nat) (Z : Fz) (w : World) (hP3 : PtR Z cb1 co2 [.int .i64 u1]) (hP6 : PtR Z cb4 co5 [.int .i64 u2]) (hP9 : PtR Z cb7 co8 [.int .i64 u3.ID, .int .i64 u3.Bytes, .int .i64 u3.Every, .int .i64 u3.Late, .int .i64 u3.Jitter]) (hP15 : PtR Z cb13 co14 [.slice ao10 u4.length cap11]) (hs12 : SlR tyTask Z ao10 cap11 u4) (hP18 : PtR Z cb16 co17 [.int .i64 u5]) (hZ : Z.on w) : Calls Try.prog 85 #[.int .i64 u0, .pointer (some ⟨cb1, co2, none⟩), .pointer (some ⟨cb4, co5, none⟩), .pointer (some ⟨cb7, co8, none⟩), .pointer (some ⟨cb13, co14, none⟩), .pointer (some ⟨cb16, co17, none⟩)] w fun e w' => e = .returned (.int .i64 (dw2S u0 u1 u2 u3 u4 u5)) ∧ Below w.heap.size w w' :=
  (dw2_walk u0 u1 u2 u3 u4 u5 cb1 co2 cb4 co5 cb7 co8 cb13 co14 ao10 cap11 cb16 co17 Z w hP3 hP6 hP9 hP15 hs12 hP18 hZ (dw2_ok u0 u1 u2 u3 u4 u5 hpre)).mono fun _ _ ⟨r, he, hk, hb⟩ => ⟨by subst hk; exact he, hb⟩

set_option maxRecDepth 100000 in
set_option maxHeartbeats 0 in
theorem dworst_walk (u0 : List Task) (u1 : Int) (ao1 : Option Addr) (cap2 : Nat) (Z : Fz) (w : World) (hs3 : SlR tyTask Z ao1 cap2 u0) (hZ : Z.on w) {K : Int → Prop} (hp : dworst_vc u0 u1 K) : Calls Try.prog 48 #[.slice ao1 u0.length cap2, .int .i64 u1] w fun e w' => ∃ r : Int, e = .returned (.int .i64 r) ∧ K r ∧ Below w.heap.size w w' := by
 refine enter0 Try.func48 rfl rfl (by kernel_rfl) ?_; intro a0 hF0; have hM0 := Mem.start w Z hZ; have hle0 := Fz.le.refl Z
 have hp4 := hp (hs3.small); clear hp
 refine sqH ?_; intro hQ5Q hQ5
 refine sn hF0 hM0 (fun b => .pointer (some ⟨b, 0, none⟩)) [.slice ao1 u0.length cap2] 32 (nog rfl _) rfl (by kernel_rfl) (by kernel_rfl) ?_; intro b6 a7 wd9 hF8 hM10; clear hF0 hM0
 refine sn hF8 hM10 (fun b => .pointer (some ⟨b, 0, none⟩)) [.int .i64 u1] 3 (nog rfl _) rfl (by kernel_rfl) (by kernel_rfl) ?_; intro b11 a12 wd14 hF13 hM15; clear hF8 hM10
 refine s1 hF13 4 (.int .i64 0) ?_; intro a16 hF17; clear hF13
 refine nlH (hQ5 _ _ ?_); clear hQ5 hQ5Q
 refine sqH ?_; intro hQ18Q hQ18
 refine l1 hF17 hM15 13 1 0 (.slice ao1 u0.length cap2) rfl rfl ?_; intro a19 hF20; clear hF17
 refine l1 hF20 hM15 14 0 0 (.int .i64 u1) rfl rfl ?_; intro a21 hF22; clear hF20
 have hc23 := hp4.1; have hp24 := hp4.2; clear hp4
 refine ix hF22 (T := tyTask) (xs := u0) hs3 u1 hc23 (k := .i64) (e := 34) (bytes := 40) (nog rfl _) rfl (by kernel_rfl) rfl (by kernel_rfl) (by kernel_rfl) (by kernel_rfl) ?_; intro b25 off26 cs27 q28 a32 hq29 hP30 hT31 hF33; clear hF22
 have hp34 := hp24 q28 hq29; clear hp24
 obtain rfl : cs27 = ([.int .i64 q28.ID, .int .i64 q28.Bytes, .int .i64 q28.Every, .int .i64 q28.Late, .int .i64 q28.Jitter] : List Value) := hT31
 refine z2 hF33 hM15 16 hP30 0 5 [.int .i64 q28.ID, .int .i64 q28.Bytes, .int .i64 q28.Every, .int .i64 q28.Late, .int .i64 q28.Jitter] rfl ?_; intro a35 hF36; clear hF33
 refine sn hF36 hM15 (fun b => .pointer (some ⟨b, 0, none⟩)) [.int .i64 0, .int .i64 0, .int .i64 0, .int .i64 0, .int .i64 0] 34 (nog rfl _) rfl (by kernel_rfl) (by kernel_rfl) ?_; intro b37 a38 wd40 hF39 hM41; clear hF36 hM15
 refine sr hF39 hM41 0 [.int .i64 q28.ID, .int .i64 q28.Bytes, .int .i64 q28.Every, .int .i64 q28.Late, .int .i64 q28.Jitter] (b := b37) (off := 0) (cs := [.int .i64 0, .int .i64 0, .int .i64 0, .int .i64 0, .int .i64 0]) (ty := 34) (u := .agg #[.int .i64 q28.ID, .int .i64 q28.Bytes, .int .i64 q28.Every, .int .i64 q28.Late, .int .i64 q28.Jitter]) (nog rfl _) rfl rfl (by kernel_rfl) (by kernel_rfl) (by kernel_rfl) (by kernel_rfl) (by kernel_rfl) (by kernel_rfl) (by kernel_rfl) ?_; intro wd42 hM43; clear hM41
 have hM44 : Mem w.heap.size [] w Z [.row b37 [.int .i64 q28.ID, .int .i64 q28.Bytes, .int .i64 q28.Every, .int .i64 q28.Late, .int .i64 q28.Jitter] 34, .row b11 [.int .i64 u1] 3, .row b6 [.slice ao1 u0.length cap2] 32] Z wd42 := hM43; clear hM43
 refine nlH (hQ18 _ _ ?_); clear hQ18 hQ18Q
 refine sqH ?_; intro hQ45Q hQ45
 refine sn hF39 hM44 (fun b => .pointer (some ⟨b, 0, none⟩)) [.int .i64 0] 3 (nog rfl _) rfl (by kernel_rfl) (by kernel_rfl) ?_; intro b46 a47 wd49 hF48 hM50; clear hF39 hM44
 refine sr hF48 hM50 0 [.int .i64 0] (b := b46) (off := 0) (cs := [.int .i64 0]) (ty := 3) (u := .int .i64 0) (nog rfl _) rfl rfl (by kernel_rfl) (by kernel_rfl) (by kernel_rfl) (by kernel_rfl) (by kernel_rfl) (by kernel_rfl) (by kernel_rfl) ?_; intro wd51 hM52; clear hM50
 have hM53 : Mem w.heap.size [] w Z [.row b46 [.int .i64 0] 3, .row b37 [.int .i64 q28.ID, .int .i64 q28.Bytes, .int .i64 q28.Every, .int .i64 q28.Late, .int .i64 q28.Jitter] 34, .row b11 [.int .i64 u1] 3, .row b6 [.slice ao1 u0.length cap2] 32] Z wd51 := hM52; clear hM52
 refine nlH (hQ45 _ _ ?_); clear hQ45 hQ45Q
 refine wp_seq ?_
 refine sqH ?_; intro hQ54Q hQ54
 refine l1 hF48 hM53 17 3 0 (.slice ao1 u0.length cap2) rfl rfl ?_; intro a55 hF56; clear hF48
 refine l1 hF56 hM53 18 2 0 (.int .i64 u1) rfl rfl ?_; intro a57 hF58; clear hF56
 refine s1 hF58 19 (.int .i64 (w64 (u1 + 1))) ?_; intro a59 hF60; clear hF58
 have hc61 := hp34.1; have hp62 := hp34.2; clear hp34
 refine slL hF60 (T := tyTask) (xs := u0) hs3 (w64 (u1 + 1)) hc61 (k := .i64) (e := 34) (bytes := 40) (nog rfl _) rfl (by kernel_rfl) rfl (by kernel_rfl) (by kernel_rfl) (by kernel_rfl) ?_; intro ao63 cap64 a67 hn65 hs66 hF68; clear hF60
 refine s1 hF68 21 (.int .i64 ((u0.drop (w64 (u1 + 1)).toNat).length : Int)) ?_; intro a69 hF70; clear hF68
 refine s1 hF70 22 (.int .i64 0) ?_; intro a71 hF72; clear hF70
 refine nlH (hQ54 _ _ ?_); clear hQ54 hQ54Q
 refine wp_block ?_
 have hF73 : Fr 69 [] [⟨2, [], .pointer (some ⟨b6, 0, none⟩)⟩, ⟨3, [], .pointer (some ⟨b11, 0, none⟩)⟩, ⟨5, [], .pointer (some ⟨b37, 0, none⟩)⟩, ⟨6, [], .pointer (some ⟨b46, 0, none⟩)⟩, ⟨20, [], .slice ao63 (u0.drop (w64 (u1 + 1)).toNat).length cap64⟩, ⟨21, [], .int .i64 ((u0.drop (w64 (u1 + 1)).toNat).length : Int)⟩, ⟨22, [], .int .i64 0⟩] a71 := hF72.region (by kernel_rfl) (by kernel_rfl); clear hF72
 have hF75 : Fr 69 [] [⟨2, [], .pointer (some ⟨b6, 0, none⟩)⟩, ⟨3, [], .pointer (some ⟨b11, 0, none⟩)⟩, ⟨5, [], .pointer (some ⟨b37, 0, none⟩)⟩, ⟨6, [], .pointer (some ⟨b46, 0, none⟩)⟩, ⟨20, [], .slice ao63 (u0.drop (w64 (u1 + 1)).toNat).length cap64⟩, ⟨21, [], .int .i64 ((u0.drop (w64 (u1 + 1)).toNat).length : Int)⟩, ⟨22, [], .int .i64 0⟩] a71 := hF73.region (by kernel_rfl) (by kernel_rfl); clear hF73
 obtain ⟨inv74, mu74, hI78, hr77⟩ := hp62
 refine lp (ι := Int × Int) (fun (s : Int × Int) => [⟨2, [], .pointer (some ⟨b6, 0, none⟩)⟩, ⟨3, [], .pointer (some ⟨b11, 0, none⟩)⟩, ⟨5, [], .pointer (some ⟨b37, 0, none⟩)⟩, ⟨6, [], .pointer (some ⟨b46, 0, none⟩)⟩, ⟨20, [], .slice ao63 (u0.drop (w64 (u1 + 1)).toNat).length cap64⟩, ⟨21, [], .int .i64 ((u0.drop (w64 (u1 + 1)).toNat).length : Int)⟩, ⟨22, [], .int .i64 s.1⟩]) (fun (s : Int × Int) => [.row b46 [.int .i64 s.2] 3, .row b37 [.int .i64 q28.ID, .int .i64 q28.Bytes, .int .i64 q28.Every, .int .i64 q28.Late, .int .i64 q28.Jitter] 34, .row b11 [.int .i64 u1] 3, .row b6 [.slice ao1 u0.length cap2] 32]) (fun (s : Int × Int) => Z) (fun (s : Int × Int) => inv74 s.1 s.2) (fun (s : Int × Int) => mu74 s.1 s.2) ⟨0, 0⟩ hI78 (by exact hF75.region (by kernel_rfl) (by kernel_rfl)) (by exact hM53) ?_
 rintro ⟨x22, yb46c0⟩ hI76 a80 wd81 hF82 hM83
 have hF84 : Fr 69 [] [⟨2, [], .pointer (some ⟨b6, 0, none⟩)⟩, ⟨3, [], .pointer (some ⟨b11, 0, none⟩)⟩, ⟨5, [], .pointer (some ⟨b37, 0, none⟩)⟩, ⟨6, [], .pointer (some ⟨b46, 0, none⟩)⟩, ⟨20, [], .slice ao63 (u0.drop (w64 (u1 + 1)).toNat).length cap64⟩, ⟨21, [], .int .i64 ((u0.drop (w64 (u1 + 1)).toNat).length : Int)⟩, ⟨22, [], .int .i64 x22⟩] a80 := hF82; clear hF82 hF75
 have hM85 : Mem w.heap.size [] w Z [.row b46 [.int .i64 yb46c0] 3, .row b37 [.int .i64 q28.ID, .int .i64 q28.Bytes, .int .i64 q28.Every, .int .i64 q28.Late, .int .i64 q28.Jitter] 34, .row b11 [.int .i64 u1] 3, .row b6 [.slice ao1 u0.length cap2] 32] Z wd81 := hM83; clear hM83 hM53
 have hp86 := hr77 x22 yb46c0 hI76
 refine sqH ?_; intro hQ87Q hQ87
 refine s1 hF84 23 (.bool (decide (x22 < ((u0.drop (w64 (u1 + 1)).toNat).length : Int)))) ?_; intro a88 hF89; clear hF84
 refine nlH (hQ87 _ _ ?_); clear hQ87 hQ87Q
 refine wp_seq ?_
 refine cd hF89 (t := decide (x22 < ((u0.drop (w64 (u1 + 1)).toNat).length : Int))) (by kernel_rfl) (fun hb90 => ?_) (fun hb90 => ?_)
 · -- yes
  have hp91 := hp86.1 hb90; clear hp86
  refine wp_skip ?_
  refine thn ?_
  refine wp_seq ?_
  refine wp_block ?_
  refine sqH ?_; intro hQ92Q hQ92
  have hc93 := hp91.1; have hp94 := hp91.2; clear hp91
  refine ix hF89 (T := tyTask) (xs := u0.drop (w64 (u1 + 1)).toNat) hs66 x22 hc93 (k := .i64) (e := 34) (bytes := 40) (nog rfl _) rfl (by kernel_rfl) rfl (by kernel_rfl) (by kernel_rfl) (by kernel_rfl) ?_; intro b95 off96 cs97 q98 a102 hq99 hP100 hT101 hF103; clear hF89
  have hp104 := hp94 q98 hq99; clear hp94
  obtain rfl : cs97 = ([.int .i64 q98.ID, .int .i64 q98.Bytes, .int .i64 q98.Every, .int .i64 q98.Late, .int .i64 q98.Jitter] : List Value) := hT101
  refine z2 hF103 hM85 25 hP100 0 5 [.int .i64 q98.ID, .int .i64 q98.Bytes, .int .i64 q98.Every, .int .i64 q98.Late, .int .i64 q98.Jitter] rfl ?_; intro a105 hF106; clear hF103
  refine sn hF106 hM85 (fun b => .pointer (some ⟨b, 0, none⟩)) [.int .i64 0, .int .i64 0, .int .i64 0, .int .i64 0, .int .i64 0] 34 (nog rfl _) rfl (by kernel_rfl) (by kernel_rfl) ?_; intro b107 a108 wd110 hF109 hM111; clear hF106 hM85
  refine sr hF109 hM111 0 [.int .i64 q98.ID, .int .i64 q98.Bytes, .int .i64 q98.Every, .int .i64 q98.Late, .int .i64 q98.Jitter] (b := b107) (off := 0) (cs := [.int .i64 0, .int .i64 0, .int .i64 0, .int .i64 0, .int .i64 0]) (ty := 34) (u := .agg #[.int .i64 q98.ID, .int .i64 q98.Bytes, .int .i64 q98.Every, .int .i64 q98.Late, .int .i64 q98.Jitter]) (nog rfl _) rfl rfl (by kernel_rfl) (by kernel_rfl) (by kernel_rfl) (by kernel_rfl) (by kernel_rfl) (by kernel_rfl) (by kernel_rfl) ?_; intro wd112 hM113; clear hM111
  have hM114 : Mem w.heap.size [] w Z [.row b107 [.int .i64 q98.ID, .int .i64 q98.Bytes, .int .i64 q98.Every, .int .i64 q98.Late, .int .i64 q98.Jitter] 34, .row b46 [.int .i64 yb46c0] 3, .row b37 [.int .i64 q28.ID, .int .i64 q28.Bytes, .int .i64 q28.Every, .int .i64 q28.Late, .int .i64 q28.Jitter] 34, .row b11 [.int .i64 u1] 3, .row b6 [.slice ao1 u0.length cap2] 32] Z wd112 := hM113; clear hM113
  refine nlH (hQ92 _ _ ?_); clear hQ92 hQ92Q
  have hF115 : Fr 69 [] [⟨2, [], .pointer (some ⟨b6, 0, none⟩)⟩, ⟨3, [], .pointer (some ⟨b11, 0, none⟩)⟩, ⟨5, [], .pointer (some ⟨b37, 0, none⟩)⟩, ⟨6, [], .pointer (some ⟨b46, 0, none⟩)⟩, ⟨8, [], .pointer (some ⟨b107, 0, none⟩)⟩, ⟨20, [], .slice ao63 (u0.drop (w64 (u1 + 1)).toNat).length cap64⟩, ⟨21, [], .int .i64 ((u0.drop (w64 (u1 + 1)).toNat).length : Int)⟩, ⟨22, [], .int .i64 x22⟩] a108 := hF109.region (by kernel_rfl) (by kernel_rfl); clear hF109
  refine any_invE mixed [[], [], [1], [0, 2], [0, 1, 2, 3]] 5 (fun S a w1 => ∃ (ud26 : Value) (ud27 : Value) (ud28 : Value) (ud29 : Value) (rh0 : Res) (rh1 : Res) (rh2 : Res) (rh3 : Res) (rh4 : Res), Fz.le Z Z ∧ Fr 69 [] [⟨2, [], .pointer (some ⟨b6, 0, none⟩)⟩, ⟨3, [], .pointer (some ⟨b11, 0, none⟩)⟩, ⟨5, [], .pointer (some ⟨b37, 0, none⟩)⟩, ⟨6, [], .pointer (some ⟨b46, 0, none⟩)⟩, ⟨8, [], .pointer (some ⟨b107, 0, none⟩)⟩, ⟨20, [], .slice ao63 (u0.drop (w64 (u1 + 1)).toNat).length cap64⟩, ⟨21, [], .int .i64 ((u0.drop (w64 (u1 + 1)).toNat).length : Int)⟩, ⟨22, [], .int .i64 x22⟩, ⟨26, [], ud26⟩, ⟨27, [], ud27⟩, ⟨28, [], ud28⟩, ⟨29, [], ud29⟩] a ∧ Mem w.heap.size [] w Z [rh0, rh1, rh2, rh3, rh4] Z w1 ∧ (S 0 = true → ud26 = .int .i64 yb46c0) ∧ (S 1 = true → ud27 = .agg #[.int .i64 q98.ID, .int .i64 q98.Bytes, .int .i64 q98.Every, .int .i64 q98.Late, .int .i64 q98.Jitter]) ∧ (S 2 = true → ud28 = .int .i64 (dlongS q98)) ∧ (S 3 = true → ud29 = .int .i64 (max yb46c0 (dlongS q98))) ∧ (rh0 = .row b107 [.int .i64 q98.ID, .int .i64 q98.Bytes, .int .i64 q98.Every, .int .i64 q98.Late, .int .i64 q98.Jitter] 34) ∧ (S 4 = false → rh1 = .row b46 [.int .i64 yb46c0] 3) ∧ (S 4 = true → rh1 = .row b46 [.int .i64 (max yb46c0 (dlongS q98))] 3) ∧ (rh2 = .row b37 [.int .i64 q28.ID, .int .i64 q28.Bytes, .int .i64 q28.Every, .int .i64 q28.Late, .int .i64 q28.Jitter] 34) ∧ (rh3 = .row b11 [.int .i64 u1] 3) ∧ (rh4 = .row b6 [.slice ao1 u0.length cap2] 32)) ?h0 ?hs ?hE
  case h0 =>
   have hF129 := hF115.any 26
   have hF130 := hF129.any 27
   have hF131 := hF130.any 28
   have hF132 := hF131.any 29
   have hM133 := (hM114.perm (List.Perm.refl _)).drew
   exact ⟨a108.tmps.getD 26 undef, a108.tmps.getD 27 undef, a108.tmps.getD 28 undef, a108.tmps.getD 29 undef, .row b107 [.int .i64 q98.ID, .int .i64 q98.Bytes, .int .i64 q98.Every, .int .i64 q98.Late, .int .i64 q98.Jitter] 34, .row b46 [.int .i64 yb46c0] 3, .row b37 [.int .i64 q28.ID, .int .i64 q28.Bytes, .int .i64 q28.Every, .int .i64 q28.Late, .int .i64 q28.Jitter] 34, .row b11 [.int .i64 u1] 3, .row b6 [.slice ao1 u0.length cap2] 32, Fz.le.refl _, hF132.region (by kernel_rfl) (by kernel_rfl), hM133, ff, ff, ff, ff, rfl, kf, ff, rfl, rfl, rfl⟩
  case hs =>
   intro S hcl i o hil hi hSi hpre a w1 hI; refine Go.Sy.hid ?_; intro G hG; obtain ⟨ud26, hI⟩ := hI; obtain ⟨ud27, hI⟩ := hI; obtain ⟨ud28, hI⟩ := hI; obtain ⟨ud29, hI⟩ := hI; obtain ⟨rh0, hI⟩ := hI; obtain ⟨rh1, hI⟩ := hI; obtain ⟨rh2, hI⟩ := hI; obtain ⟨rh3, hI⟩ := hI; obtain ⟨rh4, hI⟩ := hI; obtain ⟨hle128, hI⟩ := hI; obtain ⟨hFx, hI⟩ := hI; obtain ⟨hMx, hI⟩ := hI; obtain ⟨cu26, hI⟩ := hI; obtain ⟨cu27, hI⟩ := hI; obtain ⟨cu28, hI⟩ := hI; obtain ⟨cu29, hI⟩ := hI; obtain ⟨cr0_0, hI⟩ := hI; obtain ⟨cr1_0, hI⟩ := hI; obtain ⟨cr1_1, hI⟩ := hI; obtain ⟨cr2_0, hI⟩ := hI; obtain ⟨cr3_0, hI⟩ := hI; have cr4_0 := hI; clear hI
   have hcase : i = 0 ∨ i = 1 ∨ i = 2 ∨ i = 3 ∨ i = 4 := by clear hi; omega
   rcases hcase with rfl | rfl | rfl | rfl | rfl
   · -- 0: load
    obtain rfl := Option.some.inj hi
    have hx0 := hSi
    have hx3 := negF hcl 3 0 (by kernel_rfl) hx0
    have hx4 := negF hcl 4 0 (by kernel_rfl) hx0
    obtain rfl := cr0_0
    obtain rfl := cr1_0 hx4
    obtain rfl := cr2_0
    obtain rfl := cr3_0
    obtain rfl := cr4_0
    refine hG (any_step ?_); clear hG G; intro A J hJ
    have hle0 := Fz.le.trans hle0 hle128
    have hs134 := hs3.mono hle128
    have hs135 := hP30.mono hle128
    have hs136 := hs66.mono hle128
    have hs137 := hP100.mono hle128
    refine l1 hFx hMx 26 1 0 (.int .i64 yb46c0) rfl rfl ?_; intro a138 hF139; clear hFx
    refine nl (qnI (hJ _ _ ?_)); clear hJ J
    exact ⟨.int .i64 yb46c0, ud27, ud28, ud29, .row b107 [.int .i64 q98.ID, .int .i64 q98.Bytes, .int .i64 q98.Every, .int .i64 q98.Late, .int .i64 q98.Jitter] 34, .row b46 [.int .i64 yb46c0] 3, .row b37 [.int .i64 q28.ID, .int .i64 q28.Bytes, .int .i64 q28.Every, .int .i64 q28.Late, .int .i64 q28.Jitter] 34, .row b11 [.int .i64 u1] 3, .row b6 [.slice ao1 u0.length cap2] 32, hle128, hF139.region (by kernel_rfl) (by kernel_rfl), hMx.perm (List.Perm.refl _), kf, cu27, cu28, (nt hx3), rfl, kf, (nt hx4), rfl, rfl, rfl⟩
   · -- 1: load
    obtain rfl := Option.some.inj hi
    have hx1 := hSi
    have hx2 := negF hcl 2 1 (by kernel_rfl) hx1
    have hx3 := negF hcl 3 2 (by kernel_rfl) hx2
    have hx4 := negF hcl 4 1 (by kernel_rfl) hx1
    obtain rfl := cr0_0
    obtain rfl := cr1_0 hx4
    obtain rfl := cr2_0
    obtain rfl := cr3_0
    obtain rfl := cr4_0
    refine hG (any_step ?_); clear hG G; intro A J hJ
    have hle0 := Fz.le.trans hle0 hle128
    have hs141 := hs3.mono hle128
    have hs142 := hP30.mono hle128
    have hs143 := hs66.mono hle128
    have hs144 := hP100.mono hle128
    refine l2 hFx hMx 27 0 0 5 [.int .i64 q98.ID, .int .i64 q98.Bytes, .int .i64 q98.Every, .int .i64 q98.Late, .int .i64 q98.Jitter] rfl rfl ?_; intro a145 hF146; clear hFx
    refine nl (qnI (hJ _ _ ?_)); clear hJ J
    exact ⟨ud26, .agg #[.int .i64 q98.ID, .int .i64 q98.Bytes, .int .i64 q98.Every, .int .i64 q98.Late, .int .i64 q98.Jitter], ud28, ud29, .row b107 [.int .i64 q98.ID, .int .i64 q98.Bytes, .int .i64 q98.Every, .int .i64 q98.Late, .int .i64 q98.Jitter] 34, .row b46 [.int .i64 yb46c0] 3, .row b37 [.int .i64 q28.ID, .int .i64 q28.Bytes, .int .i64 q28.Every, .int .i64 q28.Late, .int .i64 q28.Jitter] 34, .row b11 [.int .i64 u1] 3, .row b6 [.slice ao1 u0.length cap2] 32, hle128, hF146.region (by kernel_rfl) (by kernel_rfl), hMx.perm (List.Perm.refl _), cu26, kf, (nt hx2), (nt hx3), rfl, kf, (nt hx4), rfl, rfl, rfl⟩
   · -- 2: call
    obtain rfl := Option.some.inj hi
    have hx1 := hpre 1 (by kernel_rfl)
    have hx2 := hSi
    have hx3 := negF hcl 3 2 (by kernel_rfl) hx2
    have hx4 := negF hcl 4 2 (by kernel_rfl) hx2
    obtain rfl := cu27 hx1
    obtain rfl := cr0_0
    obtain rfl := cr1_0 hx4
    obtain rfl := cr2_0
    obtain rfl := cr3_0
    obtain rfl := cr4_0
    refine hG (any_step ?_); clear hG G; intro A J hJ
    have hle0 := Fz.le.trans hle0 hle128
    have hs148 := hs3.mono hle128
    have hs149 := hP30.mono hle128
    have hs150 := hs66.mono hle128
    have hs151 := hP100.mono hle128
    refine fcl hFx hMx (.int .i64 (dlongS q98)) 81 #[.agg #[.int .i64 q98.ID, .int .i64 q98.Bytes, .int .i64 q98.Every, .int .i64 q98.Late, .int .i64 q98.Jitter]] (nog rfl _) rfl (by kernel_rfl) (fun _ => by kernel_rfl) (dlong_fun q98 _ _ hMx.fz) ?_; intro a152 wd154 hF153 hM155; clear hFx hMx
    refine nl (qnI (hJ _ _ ?_)); clear hJ J
    exact ⟨ud26, .agg #[.int .i64 q98.ID, .int .i64 q98.Bytes, .int .i64 q98.Every, .int .i64 q98.Late, .int .i64 q98.Jitter], .int .i64 (dlongS q98), ud29, .row b107 [.int .i64 q98.ID, .int .i64 q98.Bytes, .int .i64 q98.Every, .int .i64 q98.Late, .int .i64 q98.Jitter] 34, .row b46 [.int .i64 yb46c0] 3, .row b37 [.int .i64 q28.ID, .int .i64 q28.Bytes, .int .i64 q28.Every, .int .i64 q28.Late, .int .i64 q28.Jitter] 34, .row b11 [.int .i64 u1] 3, .row b6 [.slice ao1 u0.length cap2] 32, hle128, hF153.region (by kernel_rfl) (by kernel_rfl), hM155.perm (List.Perm.refl _), cu26, kf, kf, (nt hx3), rfl, kf, (nt hx4), rfl, rfl, rfl⟩
   · -- 3: call
    obtain rfl := Option.some.inj hi
    have hx2 := hpre 2 (by kernel_rfl)
    have hx0 := hpre 0 (by kernel_rfl)
    have hx1 := hcl 2 1 (by kernel_rfl) hx2
    have hx3 := hSi
    have hx4 := negF hcl 4 3 (by kernel_rfl) hx3
    obtain rfl := cu26 hx0
    obtain rfl := cu27 hx1
    obtain rfl := cu28 hx2
    obtain rfl := cr0_0
    obtain rfl := cr1_0 hx4
    obtain rfl := cr2_0
    obtain rfl := cr3_0
    obtain rfl := cr4_0
    refine hG (any_step ?_); clear hG G; intro A J hJ
    have hle0 := Fz.le.trans hle0 hle128
    have hs157 := hs3.mono hle128
    have hs158 := hP30.mono hle128
    have hs159 := hs66.mono hle128
    have hs160 := hP100.mono hle128
    refine st hFx (.int .i64 (max yb46c0 (dlongS q98))) (nog rfl _) rfl (by kernel_rfl) (re_ (p0 hFx (r := .ok (.value (.int .i64 (if yb46c0 < (dlongS q98) then (dlongS q98) else yb46c0))) w1) (by kernel_rfl)) (by rw [imax])) ?_; intro a161 hF162; clear hFx
    refine nl (qnI (hJ _ _ ?_)); clear hJ J
    exact ⟨.int .i64 yb46c0, .agg #[.int .i64 q98.ID, .int .i64 q98.Bytes, .int .i64 q98.Every, .int .i64 q98.Late, .int .i64 q98.Jitter], .int .i64 (dlongS q98), .int .i64 (max yb46c0 (dlongS q98)), .row b107 [.int .i64 q98.ID, .int .i64 q98.Bytes, .int .i64 q98.Every, .int .i64 q98.Late, .int .i64 q98.Jitter] 34, .row b46 [.int .i64 yb46c0] 3, .row b37 [.int .i64 q28.ID, .int .i64 q28.Bytes, .int .i64 q28.Every, .int .i64 q28.Late, .int .i64 q28.Jitter] 34, .row b11 [.int .i64 u1] 3, .row b6 [.slice ao1 u0.length cap2] 32, hle128, hF162.region (by kernel_rfl) (by kernel_rfl), hMx.perm (List.Perm.refl _), kf, kf, kf, kf, rfl, kf, (nt hx4), rfl, rfl, rfl⟩
   · -- 4: store
    obtain rfl := Option.some.inj hi
    have hx3 := hpre 3 (by kernel_rfl)
    have hx2 := hpre 2 (by kernel_rfl)
    have hx1 := hpre 1 (by kernel_rfl)
    have hx0 := hpre 0 (by kernel_rfl)
    have hx4 := hSi
    obtain rfl := cu26 hx0
    obtain rfl := cu27 hx1
    obtain rfl := cu28 hx2
    obtain rfl := cu29 hx3
    obtain rfl := cr0_0
    obtain rfl := cr1_0 hx4
    obtain rfl := cr2_0
    obtain rfl := cr3_0
    obtain rfl := cr4_0
    refine hG (any_step ?_); clear hG G; intro A J hJ
    have hle0 := Fz.le.trans hle0 hle128
    have hs164 := hs3.mono hle128
    have hs165 := hP30.mono hle128
    have hs166 := hs66.mono hle128
    have hs167 := hP100.mono hle128
    refine sr hFx hMx 1 [.int .i64 (max yb46c0 (dlongS q98))] (b := b46) (off := 0) (cs := [.int .i64 yb46c0]) (ty := 3) (u := .int .i64 (max yb46c0 (dlongS q98))) (nog rfl _) rfl rfl (by kernel_rfl) (by kernel_rfl) (by kernel_rfl) (by kernel_rfl) (by kernel_rfl) (by kernel_rfl) (by kernel_rfl) ?_; intro wd168 hM169; clear hMx
    refine nl (qnI (hJ _ _ ?_)); clear hJ J
    exact ⟨.int .i64 yb46c0, .agg #[.int .i64 q98.ID, .int .i64 q98.Bytes, .int .i64 q98.Every, .int .i64 q98.Late, .int .i64 q98.Jitter], .int .i64 (dlongS q98), .int .i64 (max yb46c0 (dlongS q98)), .row b107 [.int .i64 q98.ID, .int .i64 q98.Bytes, .int .i64 q98.Every, .int .i64 q98.Late, .int .i64 q98.Jitter] 34, .row b46 [.int .i64 (max yb46c0 (dlongS q98))] 3, .row b37 [.int .i64 q28.ID, .int .i64 q28.Bytes, .int .i64 q28.Every, .int .i64 q28.Late, .int .i64 q28.Jitter] 34, .row b11 [.int .i64 u1] 3, .row b6 [.slice ao1 u0.length cap2] 32, hle128, hFx.region (by kernel_rfl) (by kernel_rfl), hM169.perm (List.Perm.refl _), kf, kf, kf, kf, rfl, nu, kf, rfl, rfl, rfl⟩
  case hE =>
   intro S hS a171 wd172 hI; refine Go.Sy.hid ?_; intro G hG; obtain ⟨ud26, hI⟩ := hI; obtain ⟨ud27, hI⟩ := hI; obtain ⟨ud28, hI⟩ := hI; obtain ⟨ud29, hI⟩ := hI; obtain ⟨rh0, hI⟩ := hI; obtain ⟨rh1, hI⟩ := hI; obtain ⟨rh2, hI⟩ := hI; obtain ⟨rh3, hI⟩ := hI; obtain ⟨rh4, hI⟩ := hI; obtain ⟨hle128, hI⟩ := hI; obtain ⟨hFx, hI⟩ := hI; obtain ⟨hMx, hI⟩ := hI; obtain ⟨cu26, hI⟩ := hI; obtain ⟨cu27, hI⟩ := hI; obtain ⟨cu28, hI⟩ := hI; obtain ⟨cu29, hI⟩ := hI; obtain ⟨cr0_0, hI⟩ := hI; obtain ⟨cr1_0, hI⟩ := hI; obtain ⟨cr1_1, hI⟩ := hI; obtain ⟨cr2_0, hI⟩ := hI; obtain ⟨cr3_0, hI⟩ := hI; have cr4_0 := hI; clear hI; refine hG ?_; clear hG G
   obtain rfl := cu26 (hS 0 (by decide))
   obtain rfl := cu27 (hS 1 (by decide))
   obtain rfl := cu28 (hS 2 (by decide))
   obtain rfl := cu29 (hS 3 (by decide))
   obtain rfl := cr0_0
   obtain rfl := cr1_1 (hS 4 (by decide))
   obtain rfl := cr2_0
   obtain rfl := cr3_0
   obtain rfl := cr4_0
   have hle0 := Fz.le.trans hle0 hle128
   have hs173 := hs3.mono hle128
   have hs174 := hP30.mono hle128
   have hs175 := hs66.mono hle128
   have hs176 := hP100.mono hle128
   refine ibn ?_
   refine thn ?_
   have hF177 : Fr 69 [] [⟨2, [], .pointer (some ⟨b6, 0, none⟩)⟩, ⟨3, [], .pointer (some ⟨b11, 0, none⟩)⟩, ⟨5, [], .pointer (some ⟨b37, 0, none⟩)⟩, ⟨6, [], .pointer (some ⟨b46, 0, none⟩)⟩, ⟨20, [], .slice ao63 (u0.drop (w64 (u1 + 1)).toNat).length cap64⟩, ⟨21, [], .int .i64 ((u0.drop (w64 (u1 + 1)).toNat).length : Int)⟩, ⟨22, [], .int .i64 x22⟩] a171 := hFx.region (by kernel_rfl) (by kernel_rfl); clear hFx
   refine rgH ?_; intro hQ178Q hQ178
   refine s1 hF177 30 (.int .i64 (w64 (x22 + 1))) ?_; intro a179 hF180; clear hF177
   refine s1 hF180 22 (.int .i64 (w64 (x22 + 1))) ?_; intro a181 hF182; clear hF180
   refine nlH (hQ178 _ _ ?_); clear hQ178 hQ178Q
   refine rd ?_
   exact ⟨⟨w64 (x22 + 1), max yb46c0 (dlongS q98)⟩, hp104.1, hp104.2, (hF182.region (by kernel_rfl) (by kernel_rfl)).anyβ _ (by kernel_rfl), hMx.keep (List.Sublist.cons _ (List.Sublist.cons_cons _ (List.Sublist.cons_cons _ (List.Sublist.cons_cons _ (List.Sublist.cons_cons _ (List.Sublist.slnil))))))⟩
 · -- no
  have hp183 := hp86.2 hb90; clear hp86
  refine wp_exit ?_
  refine thx ?_
  refine thx ?_
  refine ibx ?_
  refine thn ?_
  have hF184 : Fr 69 [] [⟨2, [], .pointer (some ⟨b6, 0, none⟩)⟩, ⟨3, [], .pointer (some ⟨b11, 0, none⟩)⟩, ⟨5, [], .pointer (some ⟨b37, 0, none⟩)⟩, ⟨6, [], .pointer (some ⟨b46, 0, none⟩)⟩] a88 := hF89.region (by kernel_rfl) (by kernel_rfl); clear hF89
  obtain ⟨Z185, hle186, hM187, hP188⟩ := hM85.freezeRow 0 rfl
  replace hs3 := hs3.mono hle186
  replace hP30 := hP30.mono hle186
  replace hs66 := hs66.mono hle186
  replace hle0 := Fz.le.trans hle0 hle186
  have hM189 : Mem w.heap.size [] w Z [.row b37 [.int .i64 q28.ID, .int .i64 q28.Bytes, .int .i64 q28.Every, .int .i64 q28.Late, .int .i64 q28.Jitter] 34, .row b11 [.int .i64 u1] 3, .row b6 [.slice ao1 u0.length cap2] 32] Z185 wd81 := hM187; clear hM187
  obtain ⟨Z190, hle191, hM192, hP193⟩ := hM189.freezeRow 2 rfl
  replace hs3 := hs3.mono hle191
  replace hP30 := hP30.mono hle191
  replace hs66 := hs66.mono hle191
  replace hP188 := hP188.mono hle191
  replace hle0 := Fz.le.trans hle0 hle191
  have hM194 : Mem w.heap.size [] w Z [.row b37 [.int .i64 q28.ID, .int .i64 q28.Bytes, .int .i64 q28.Every, .int .i64 q28.Late, .int .i64 q28.Jitter] 34, .row b11 [.int .i64 u1] 3] Z190 wd81 := hM192; clear hM192
  obtain ⟨Z195, hle196, hM197, hP198⟩ := hM194.freezeRow 1 rfl
  replace hs3 := hs3.mono hle196
  replace hP30 := hP30.mono hle196
  replace hs66 := hs66.mono hle196
  replace hP188 := hP188.mono hle196
  replace hP193 := hP193.mono hle196
  replace hle0 := Fz.le.trans hle0 hle196
  have hM199 : Mem w.heap.size [] w Z [.row b37 [.int .i64 q28.ID, .int .i64 q28.Bytes, .int .i64 q28.Every, .int .i64 q28.Late, .int .i64 q28.Jitter] 34] Z195 wd81 := hM197; clear hM197
  refine sqQH mixed (by kernel_rfl) hM199 ?_; intro hQ200Q hQ200
  refine qst hF184 (.int .i64 yb46c0) (nog rfl _) rfl (by kernel_rfl) (fun v201 hC => lz hF184 hC.fz hP188 0 (g := []) rfl (by kernel_rfl) (by kernel_rfl) (by kernel_rfl) rfl) ?_; intro a202 hF203; clear hF184
  refine qst hF203 (.agg #[.int .i64 q28.ID, .int .i64 q28.Bytes, .int .i64 q28.Every, .int .i64 q28.Late, .int .i64 q28.Jitter]) (nog rfl _) rfl (by kernel_rfl) (fun v204 hC => lda hF203 hC 0 (g := []) (b := b37) (off := 0) (k := 5) (cs := [.int .i64 q28.ID, .int .i64 q28.Bytes, .int .i64 q28.Every, .int .i64 q28.Late, .int .i64 q28.Jitter]) (vs := [.int .i64 q28.ID, .int .i64 q28.Bytes, .int .i64 q28.Every, .int .i64 q28.Late, .int .i64 q28.Jitter]) (ty := 34) rfl (by kernel_rfl) (by kernel_rfl) (by kernel_rfl) (by kernel_rfl) (by kernel_rfl) rfl) ?_; intro a205 hF206; clear hF203
  refine qcl hF206 (.int .i64 (dlongS q28)) 81 #[.agg #[.int .i64 q28.ID, .int .i64 q28.Bytes, .int .i64 q28.Every, .int .i64 q28.Late, .int .i64 q28.Jitter]] (nog rfl _) rfl (by kernel_rfl) (fun _ => by kernel_rfl) (qfc fun w hC => dlong_fun q28 _ _ hC.fz) ?_; intro a208 hF209; clear hF206
  refine q1 hF209 34 (.int .i64 (w64 (yb46c0 + (dlongS q28)))) ?_; intro a211 hF212; clear hF209
  refine q1 hF212 35 (.func (.func 83) #[] #[.pointer (some ⟨b46, 0, none⟩), .pointer (some ⟨b6, 0, none⟩), .pointer (some ⟨b11, 0, none⟩)]) ?_; intro a214 hF215; clear hF212
  have hc217 := hp183.1; have hp218 := hp183.2; clear hp183
  have hc219 := hp218.1; have hp220 := hp218.2; clear hp218
  refine qcl hF215 (.int .i64 (dfixS (w64 (yb46c0 + (dlongS q28))) (fun x0 => dw1S x0 yb46c0 u0 u1))) 82 #[.int .i64 (w64 (yb46c0 + (dlongS q28))), .func (.func 83) #[] #[.pointer (some ⟨b46, 0, none⟩), .pointer (some ⟨b6, 0, none⟩), .pointer (some ⟨b11, 0, none⟩)]] (nog rfl _) rfl (by kernel_rfl) (fun _ => by kernel_rfl) (qfc fun w hC => dfix_fun (w64 (yb46c0 + (dlongS q28))) (fun x0 => dw1S x0 yb46c0 u0 u1) hc217 83 #[.pointer (some ⟨b46, 0, none⟩), .pointer (some ⟨b6, 0, none⟩), .pointer (some ⟨b11, 0, none⟩)] _ _ (fun Z1 w1 h1 h2 x0 => dw1_fun x0 yb46c0 u0 u1 hc219 b46 0 b6 0 ao1 cap2 b11 0 Z1 w1 (hP188.mono h1) (hP193.mono h1) (SlR.mono hs3 h1) (hP198.mono h1) h2) (fun _ _ => by kernel_rfl) hC.fz) ?_; intro a221 hF222; clear hF215
  refine q1 hF222 9 (.int .i64 (dfixS (w64 (yb46c0 + (dlongS q28))) (fun x0 => dw1S x0 yb46c0 u0 u1))) ?_; intro a224 hF225; clear hF222
  refine qnl (hQ200 _ ?_); clear hQ200 hQ200Q; intro wd226 hM227; clear hM199
  refine wp_seq ?_
  refine sqH ?_; intro hQ228Q hQ228
  refine s1 hF225 37 (.int .i64 (dfixS (w64 (yb46c0 + (dlongS q28))) (fun x0 => dw1S x0 yb46c0 u0 u1))) ?_; intro a229 hF230; clear hF225
  refine s1 hF230 38 (.bool (decide ((dfixS (w64 (yb46c0 + (dlongS q28))) (fun x0 => dw1S x0 yb46c0 u0 u1)) < 0))) ?_; intro a231 hF232; clear hF230
  refine nlH (hQ228 _ _ ?_); clear hQ228 hQ228Q
  refine cd hF232 (t := decide ((dfixS (w64 (yb46c0 + (dlongS q28))) (fun x0 => dw1S x0 yb46c0 u0 u1)) < 0)) (by kernel_rfl) (fun hb233 => ?_) (fun hb233 => ?_)
  · -- yes
   have hp234 := hp220.1 hb233; clear hp220
   refine sqH ?_; intro hQ235Q hQ235
   refine s1 hF232 4 (.int .i64 (-1)) ?_; intro a236 hF237; clear hF232
   refine nlH (hQ235 _ _ ?_); clear hQ235 hQ235Q
   refine wp_ret ?_
   refine thr ?_
   refine rt (fn := Try.f48) (v := .int .i64 (-1)) hF237 (re1 hF237 (fn := Try.f48) rfl (by kernel_rfl)) ?_
   exact ⟨-1, rfl, hp234, hM227.below⟩
  · -- no
   have hp238 := hp220.2 hb233; clear hp220
   refine wp_skip ?_
   refine thn ?_
   refine sqH ?_; intro hQ239Q hQ239
   refine s1 hF232 10 (.int .i64 0) ?_; intro a240 hF241; clear hF232
   refine nlH (hQ239 _ _ ?_); clear hQ239 hQ239Q
   refine wp_seq ?_
   refine sqH ?_; intro hQ242Q hQ242
   refine l2 hF241 hM227 39 0 0 5 [.int .i64 q28.ID, .int .i64 q28.Bytes, .int .i64 q28.Every, .int .i64 q28.Late, .int .i64 q28.Jitter] rfl rfl ?_; intro a243 hF244; clear hF241
   refine s1 hF244 40 (.int .i64 (dfixS (w64 (yb46c0 + (dlongS q28))) (fun x0 => dw1S x0 yb46c0 u0 u1))) ?_; intro a245 hF246; clear hF244
   have hc247 := hp238.1; have hp248 := hp238.2; clear hp238
   refine fcl hF246 hM227 (.int .i64 (dasksS q28 (dfixS (w64 (yb46c0 + (dlongS q28))) (fun x0 => dw1S x0 yb46c0 u0 u1)) false)) 84 #[.agg #[.int .i64 q28.ID, .int .i64 q28.Bytes, .int .i64 q28.Every, .int .i64 q28.Late, .int .i64 q28.Jitter], .int .i64 (dfixS (w64 (yb46c0 + (dlongS q28))) (fun x0 => dw1S x0 yb46c0 u0 u1)), .bool false] (nog rfl _) rfl (by kernel_rfl) (fun _ => by kernel_rfl) (dasks_fun q28 (dfixS (w64 (yb46c0 + (dlongS q28))) (fun x0 => dw1S x0 yb46c0 u0 u1)) false hc247 _ _ hM227.fz) ?_; intro a249 wd251 hF250 hM252; clear hF246 hM227
   refine s1 hF250 42 (.int .i64 0) ?_; intro a253 hF254; clear hF250
   refine nlH (hQ242 _ _ ?_); clear hQ242 hQ242Q
   refine wp_block ?_
   obtain ⟨Z255, hle256, hM257, hP258⟩ := hM252.freezeRow 0 rfl
   replace hs3 := hs3.mono hle256
   replace hP30 := hP30.mono hle256
   replace hs66 := hs66.mono hle256
   replace hP188 := hP188.mono hle256
   replace hP193 := hP193.mono hle256
   replace hP198 := hP198.mono hle256
   replace hle0 := Fz.le.trans hle0 hle256
   have hM259 : Mem w.heap.size [] w Z [] Z255 wd251 := hM257; clear hM257
   have hF260 : Fr 69 [] [⟨2, [], .pointer (some ⟨b6, 0, none⟩)⟩, ⟨3, [], .pointer (some ⟨b11, 0, none⟩)⟩, ⟨5, [], .pointer (some ⟨b37, 0, none⟩)⟩, ⟨6, [], .pointer (some ⟨b46, 0, none⟩)⟩, ⟨10, [], .int .i64 0⟩, ⟨41, [], .int .i64 (dasksS q28 (dfixS (w64 (yb46c0 + (dlongS q28))) (fun x0 => dw1S x0 yb46c0 u0 u1)) false)⟩, ⟨42, [], .int .i64 0⟩] a253 := hF254.region (by kernel_rfl) (by kernel_rfl); clear hF254
   have hF262 : Fr 69 [] [⟨2, [], .pointer (some ⟨b6, 0, none⟩)⟩, ⟨3, [], .pointer (some ⟨b11, 0, none⟩)⟩, ⟨5, [], .pointer (some ⟨b37, 0, none⟩)⟩, ⟨6, [], .pointer (some ⟨b46, 0, none⟩)⟩, ⟨10, [], .int .i64 0⟩, ⟨41, [], .int .i64 (dasksS q28 (dfixS (w64 (yb46c0 + (dlongS q28))) (fun x0 => dw1S x0 yb46c0 u0 u1)) false)⟩, ⟨42, [], .int .i64 0⟩] a253 := hF260.region (by kernel_rfl) (by kernel_rfl); clear hF260
   obtain ⟨inv261, mu261, hI265, hr264⟩ := hp248
   have hle266 := hle0
   refine lp (ι := Int × Int × Fz) (fun (s : Int × Int × Fz) => [⟨2, [], .pointer (some ⟨b6, 0, none⟩)⟩, ⟨3, [], .pointer (some ⟨b11, 0, none⟩)⟩, ⟨5, [], .pointer (some ⟨b37, 0, none⟩)⟩, ⟨6, [], .pointer (some ⟨b46, 0, none⟩)⟩, ⟨10, [], .int .i64 s.1⟩, ⟨41, [], .int .i64 (dasksS q28 (dfixS (w64 (yb46c0 + (dlongS q28))) (fun x0 => dw1S x0 yb46c0 u0 u1)) false)⟩, ⟨42, [], .int .i64 s.2.1⟩]) (fun (s : Int × Int × Fz) => []) (fun (s : Int × Int × Fz) => s.2.2) (fun (s : Int × Int × Fz) => inv261 s.1 s.2.1 ∧ Fz.le Z255 s.2.2) (fun (s : Int × Int × Fz) => mu261 s.1 s.2.1) ⟨0, 0, Z255⟩ ⟨hI265, Fz.le.refl _⟩ (by exact hF262.region (by kernel_rfl) (by kernel_rfl)) (by exact hM259) ?_
   rintro ⟨x10, x42, ZL261⟩ ⟨hI263, hleL261⟩ a267 wd268 hF269 hM270
   have hF271 : Fr 69 [] [⟨2, [], .pointer (some ⟨b6, 0, none⟩)⟩, ⟨3, [], .pointer (some ⟨b11, 0, none⟩)⟩, ⟨5, [], .pointer (some ⟨b37, 0, none⟩)⟩, ⟨6, [], .pointer (some ⟨b46, 0, none⟩)⟩, ⟨10, [], .int .i64 x10⟩, ⟨41, [], .int .i64 (dasksS q28 (dfixS (w64 (yb46c0 + (dlongS q28))) (fun x0 => dw1S x0 yb46c0 u0 u1)) false)⟩, ⟨42, [], .int .i64 x42⟩] a267 := hF269; clear hF269 hF262
   have hM272 : Mem w.heap.size [] w Z [] ZL261 wd268 := hM270; clear hM270 hM259
   have hp273 := hr264 x10 x42 hI263
   replace hle0 := Fz.le.trans hle0 hleL261
   have hs274 := hs3.mono hleL261
   have hs275 := hP30.mono hleL261
   have hs276 := hs66.mono hleL261
   have hs277 := hP188.mono hleL261
   have hs278 := hP193.mono hleL261
   have hs279 := hP198.mono hleL261
   have hs280 := hP258.mono hleL261
   refine sqH ?_; intro hQ281Q hQ281
   refine s1 hF271 43 (.bool (decide (x42 < (dasksS q28 (dfixS (w64 (yb46c0 + (dlongS q28))) (fun x0 => dw1S x0 yb46c0 u0 u1)) false)))) ?_; intro a282 hF283; clear hF271
   refine nlH (hQ281 _ _ ?_); clear hQ281 hQ281Q
   refine wp_seq ?_
   refine cd hF283 (t := decide (x42 < (dasksS q28 (dfixS (w64 (yb46c0 + (dlongS q28))) (fun x0 => dw1S x0 yb46c0 u0 u1)) false))) (by kernel_rfl) (fun hb284 => ?_) (fun hb284 => ?_)
   · -- yes
    have hp285 := hp273.1 hb284; clear hp273
    refine wp_skip ?_
    refine thn ?_
    refine wp_seq ?_
    refine wp_block ?_
    refine sqH ?_; intro hQ286Q hQ286
    refine s1 hF283 44 (.int .i64 x42) ?_; intro a287 hF288; clear hF283
    refine sn hF288 hM272 (fun b => .pointer (some ⟨b, 0, none⟩)) [.int .i64 0] 3 (nog rfl _) rfl (by kernel_rfl) (by kernel_rfl) ?_; intro b289 a290 wd292 hF291 hM293; clear hF288 hM272
    refine sr hF291 hM293 0 [.int .i64 x42] (b := b289) (off := 0) (cs := [.int .i64 0]) (ty := 3) (u := .int .i64 x42) (nog rfl _) rfl rfl (by kernel_rfl) (by kernel_rfl) (by kernel_rfl) (by kernel_rfl) (by kernel_rfl) (by kernel_rfl) (by kernel_rfl) ?_; intro wd294 hM295; clear hM293
    have hM296 : Mem w.heap.size [] w Z [.row b289 [.int .i64 x42] 3] ZL261 wd294 := hM295; clear hM295
    refine nlH (hQ286 _ _ ?_); clear hQ286 hQ286Q
    have hF297 : Fr 69 [] [⟨2, [], .pointer (some ⟨b6, 0, none⟩)⟩, ⟨3, [], .pointer (some ⟨b11, 0, none⟩)⟩, ⟨5, [], .pointer (some ⟨b37, 0, none⟩)⟩, ⟨6, [], .pointer (some ⟨b46, 0, none⟩)⟩, ⟨10, [], .int .i64 x10⟩, ⟨11, [], .pointer (some ⟨b289, 0, none⟩)⟩, ⟨41, [], .int .i64 (dasksS q28 (dfixS (w64 (yb46c0 + (dlongS q28))) (fun x0 => dw1S x0 yb46c0 u0 u1)) false)⟩, ⟨42, [], .int .i64 x42⟩] a290 := hF291.region (by kernel_rfl) (by kernel_rfl); clear hF291
    obtain ⟨Z298, hle299, hM300, hP301⟩ := hM296.freezeRow 0 rfl
    replace hs274 := hs274.mono hle299
    replace hs275 := hs275.mono hle299
    replace hs276 := hs276.mono hle299
    replace hs277 := hs277.mono hle299
    replace hs278 := hs278.mono hle299
    replace hs279 := hs279.mono hle299
    replace hs280 := hs280.mono hle299
    replace hleL261 := hleL261.mono hle299
    replace hle0 := Fz.le.trans hle0 hle299
    have hM302 : Mem w.heap.size [] w Z [] Z298 wd294 := hM300; clear hM300
    refine sqQH mixed (by kernel_rfl) hM302 ?_; intro hQ303Q hQ303
    refine qst hF297 (.int .i64 yb46c0) (nog rfl _) rfl (by kernel_rfl) (fun v304 hC => lz hF297 hC.fz hs277 0 (g := []) rfl (by kernel_rfl) (by kernel_rfl) (by kernel_rfl) rfl) ?_; intro a305 hF306; clear hF297
    refine qst hF306 (.int .i64 x42) (nog rfl _) rfl (by kernel_rfl) (fun v307 hC => lz hF306 hC.fz hP301 0 (g := []) rfl (by kernel_rfl) (by kernel_rfl) (by kernel_rfl) rfl) ?_; intro a308 hF309; clear hF306
    refine qst hF309 (.agg #[.int .i64 q28.ID, .int .i64 q28.Bytes, .int .i64 q28.Every, .int .i64 q28.Late, .int .i64 q28.Jitter]) (nog rfl _) rfl (by kernel_rfl) (fun v310 hC => lza hF309 hC.fz hs280 0 (g := []) (m := 5) (vs := [.int .i64 q28.ID, .int .i64 q28.Bytes, .int .i64 q28.Every, .int .i64 q28.Late, .int .i64 q28.Jitter]) rfl (by kernel_rfl) (by kernel_rfl) (by kernel_rfl) (by kernel_rfl) rfl) ?_; intro a311 hF312; clear hF309
    refine qcl hF312 (.int .i64 (dlongS q28)) 81 #[.agg #[.int .i64 q28.ID, .int .i64 q28.Bytes, .int .i64 q28.Every, .int .i64 q28.Late, .int .i64 q28.Jitter]] (nog rfl _) rfl (by kernel_rfl) (fun _ => by kernel_rfl) (qfc fun w hC => dlong_fun q28 _ _ hC.fz) ?_; intro a314 hF315; clear hF312
    refine q1 hF315 49 (.int .i64 (w64 (x42 * (dlongS q28)))) ?_; intro a317 hF318; clear hF315
    refine q1 hF318 50 (.int .i64 (w64 (yb46c0 + (w64 (x42 * (dlongS q28)))))) ?_; intro a320 hF321; clear hF318
    refine q1 hF321 51 (.func (.func 85) #[] #[.pointer (some ⟨b46, 0, none⟩), .pointer (some ⟨b289, 0, none⟩), .pointer (some ⟨b37, 0, none⟩), .pointer (some ⟨b6, 0, none⟩), .pointer (some ⟨b11, 0, none⟩)]) ?_; intro a323 hF324; clear hF321
    have hc326 := hp285.1; have hp327 := hp285.2; clear hp285
    have hc328 := hp327.1; have hp329 := hp327.2; clear hp327
    refine qcl hF324 (.int .i64 (dfixS (w64 (yb46c0 + (w64 (x42 * (dlongS q28))))) (fun x0 => dw2S x0 yb46c0 x42 q28 u0 u1))) 82 #[.int .i64 (w64 (yb46c0 + (w64 (x42 * (dlongS q28))))), .func (.func 85) #[] #[.pointer (some ⟨b46, 0, none⟩), .pointer (some ⟨b289, 0, none⟩), .pointer (some ⟨b37, 0, none⟩), .pointer (some ⟨b6, 0, none⟩), .pointer (some ⟨b11, 0, none⟩)]] (nog rfl _) rfl (by kernel_rfl) (fun _ => by kernel_rfl) (qfc fun w hC => dfix_fun (w64 (yb46c0 + (w64 (x42 * (dlongS q28))))) (fun x0 => dw2S x0 yb46c0 x42 q28 u0 u1) hc326 85 #[.pointer (some ⟨b46, 0, none⟩), .pointer (some ⟨b289, 0, none⟩), .pointer (some ⟨b37, 0, none⟩), .pointer (some ⟨b6, 0, none⟩), .pointer (some ⟨b11, 0, none⟩)] _ _ (fun Z1 w1 h1 h2 x0 => dw2_fun x0 yb46c0 x42 q28 u0 u1 hc328 b46 0 b289 0 b37 0 b6 0 ao1 cap2 b11 0 Z1 w1 (hs277.mono h1) (hP301.mono h1) (hs280.mono h1) (hs278.mono h1) (SlR.mono hs274 h1) (hs279.mono h1) h2) (fun _ _ => by kernel_rfl) hC.fz) ?_; intro a330 hF331; clear hF324
    refine q1 hF331 12 (.int .i64 (dfixS (w64 (yb46c0 + (w64 (x42 * (dlongS q28))))) (fun x0 => dw2S x0 yb46c0 x42 q28 u0 u1))) ?_; intro a333 hF334; clear hF331
    refine qnl (hQ303 _ ?_); clear hQ303 hQ303Q; intro wd335 hM336; clear hM302
    have hF337 : Fr 69 [] [⟨2, [], .pointer (some ⟨b6, 0, none⟩)⟩, ⟨3, [], .pointer (some ⟨b11, 0, none⟩)⟩, ⟨5, [], .pointer (some ⟨b37, 0, none⟩)⟩, ⟨6, [], .pointer (some ⟨b46, 0, none⟩)⟩, ⟨10, [], .int .i64 x10⟩, ⟨11, [], .pointer (some ⟨b289, 0, none⟩)⟩, ⟨12, [], .int .i64 (dfixS (w64 (yb46c0 + (w64 (x42 * (dlongS q28))))) (fun x0 => dw2S x0 yb46c0 x42 q28 u0 u1))⟩, ⟨41, [], .int .i64 (dasksS q28 (dfixS (w64 (yb46c0 + (dlongS q28))) (fun x0 => dw1S x0 yb46c0 u0 u1)) false)⟩, ⟨42, [], .int .i64 x42⟩] a333 := hF334.region (by kernel_rfl) (by kernel_rfl); clear hF334
    refine qrgH mixed (by kernel_rfl) hM336 ?_; intro hQ338Q hQ338
    refine q1 hF337 53 (.int .i64 x10) ?_; intro a340 hF341; clear hF337
    refine q1 hF341 54 (.pointer (some ⟨b37, 4, none⟩)) ?_; intro a343 hF344; clear hF341
    refine qst hF344 (.int .i64 q28.Jitter) (nog rfl _) rfl (by kernel_rfl) (fun v345 hC => lz hF344 hC.fz hs280 4 (g := []) rfl (by kernel_rfl) (by kernel_rfl) (by kernel_rfl) rfl) ?_; intro a346 hF347; clear hF344
    refine q1 hF347 56 (.int .i64 (dfixS (w64 (yb46c0 + (w64 (x42 * (dlongS q28))))) (fun x0 => dw2S x0 yb46c0 x42 q28 u0 u1))) ?_; intro a349 hF350; clear hF347
    refine q1 hF350 57 (.int .i64 (w64 (q28.Jitter + (dfixS (w64 (yb46c0 + (w64 (x42 * (dlongS q28))))) (fun x0 => dw2S x0 yb46c0 x42 q28 u0 u1))))) ?_; intro a352 hF353; clear hF350
    refine qst hF353 (.int .i64 x42) (nog rfl _) rfl (by kernel_rfl) (fun v354 hC => lz hF353 hC.fz hP301 0 (g := []) rfl (by kernel_rfl) (by kernel_rfl) (by kernel_rfl) rfl) ?_; intro a355 hF356; clear hF353
    refine q1 hF356 59 (.pointer (some ⟨b37, 2, none⟩)) ?_; intro a358 hF359; clear hF356
    refine qst hF359 (.int .i64 q28.Every) (nog rfl _) rfl (by kernel_rfl) (fun v360 hC => lz hF359 hC.fz hs280 2 (g := []) rfl (by kernel_rfl) (by kernel_rfl) (by kernel_rfl) rfl) ?_; intro a361 hF362; clear hF359
    refine q1 hF362 61 (.int .i64 (w64 (x42 * q28.Every))) ?_; intro a364 hF365; clear hF362
    refine q1 hF365 62 (.int .i64 (w64 ((w64 (q28.Jitter + (dfixS (w64 (yb46c0 + (w64 (x42 * (dlongS q28))))) (fun x0 => dw2S x0 yb46c0 x42 q28 u0 u1)))) - (w64 (x42 * q28.Every))))) ?_; intro a367 hF368; clear hF365
    refine qst hF368 (.agg #[.int .i64 q28.ID, .int .i64 q28.Bytes, .int .i64 q28.Every, .int .i64 q28.Late, .int .i64 q28.Jitter]) (nog rfl _) rfl (by kernel_rfl) (fun v369 hC => lza hF368 hC.fz hs280 0 (g := []) (m := 5) (vs := [.int .i64 q28.ID, .int .i64 q28.Bytes, .int .i64 q28.Every, .int .i64 q28.Late, .int .i64 q28.Jitter]) rfl (by kernel_rfl) (by kernel_rfl) (by kernel_rfl) (by kernel_rfl) rfl) ?_; intro a370 hF371; clear hF368
    refine qcl hF371 (.int .i64 (dlongS q28)) 81 #[.agg #[.int .i64 q28.ID, .int .i64 q28.Bytes, .int .i64 q28.Every, .int .i64 q28.Late, .int .i64 q28.Jitter]] (nog rfl _) rfl (by kernel_rfl) (fun _ => by kernel_rfl) (qfc fun w hC => dlong_fun q28 _ _ hC.fz) ?_; intro a373 hF374; clear hF371
    refine q1 hF374 65 (.int .i64 (w64 ((w64 ((w64 (q28.Jitter + (dfixS (w64 (yb46c0 + (w64 (x42 * (dlongS q28))))) (fun x0 => dw2S x0 yb46c0 x42 q28 u0 u1)))) - (w64 (x42 * q28.Every)))) + (dlongS q28)))) ?_; intro a376 hF377; clear hF374
    refine qst hF377 (.int .i64 (max x10 (w64 ((w64 ((w64 (q28.Jitter + (dfixS (w64 (yb46c0 + (w64 (x42 * (dlongS q28))))) (fun x0 => dw2S x0 yb46c0 x42 q28 u0 u1)))) - (w64 (x42 * q28.Every)))) + (dlongS q28))))) (nog rfl _) rfl (by kernel_rfl) (fun v378 hC => re_ (p0 hF377 (r := .ok (.value (.int .i64 (if x10 < (w64 ((w64 ((w64 (q28.Jitter + (dfixS (w64 (yb46c0 + (w64 (x42 * (dlongS q28))))) (fun x0 => dw2S x0 yb46c0 x42 q28 u0 u1)))) - (w64 (x42 * q28.Every)))) + (dlongS q28))) then (w64 ((w64 ((w64 (q28.Jitter + (dfixS (w64 (yb46c0 + (w64 (x42 * (dlongS q28))))) (fun x0 => dw2S x0 yb46c0 x42 q28 u0 u1)))) - (w64 (x42 * q28.Every)))) + (dlongS q28))) else x10))) v378) (by kernel_rfl)) (by rw [imax])) ?_; intro a379 hF380; clear hF377
    refine q1 hF380 10 (.int .i64 (max x10 (w64 ((w64 ((w64 (q28.Jitter + (dfixS (w64 (yb46c0 + (w64 (x42 * (dlongS q28))))) (fun x0 => dw2S x0 yb46c0 x42 q28 u0 u1)))) - (w64 (x42 * q28.Every)))) + (dlongS q28))))) ?_; intro a382 hF383; clear hF380
    refine qnl (hQ338 _ ?_); clear hQ338 hQ338Q; intro wd384 hM385; clear hM336
    refine ibn ?_
    refine thn ?_
    have hF386 : Fr 69 [] [⟨2, [], .pointer (some ⟨b6, 0, none⟩)⟩, ⟨3, [], .pointer (some ⟨b11, 0, none⟩)⟩, ⟨5, [], .pointer (some ⟨b37, 0, none⟩)⟩, ⟨6, [], .pointer (some ⟨b46, 0, none⟩)⟩, ⟨10, [], .int .i64 (max x10 (w64 ((w64 ((w64 (q28.Jitter + (dfixS (w64 (yb46c0 + (w64 (x42 * (dlongS q28))))) (fun x0 => dw2S x0 yb46c0 x42 q28 u0 u1)))) - (w64 (x42 * q28.Every)))) + (dlongS q28))))⟩, ⟨41, [], .int .i64 (dasksS q28 (dfixS (w64 (yb46c0 + (dlongS q28))) (fun x0 => dw1S x0 yb46c0 u0 u1)) false)⟩, ⟨42, [], .int .i64 x42⟩] a382 := hF383.region (by kernel_rfl) (by kernel_rfl); clear hF383
    refine rgH ?_; intro hQ387Q hQ387
    refine s1 hF386 67 (.int .i64 (w64 (x42 + 1))) ?_; intro a388 hF389; clear hF386
    refine s1 hF389 42 (.int .i64 (w64 (x42 + 1))) ?_; intro a390 hF391; clear hF389
    refine nlH (hQ387 _ _ ?_); clear hQ387 hQ387Q
    refine rd ?_
    exact ⟨⟨max x10 (w64 ((w64 ((w64 (q28.Jitter + (dfixS (w64 (yb46c0 + (w64 (x42 * (dlongS q28))))) (fun x0 => dw2S x0 yb46c0 x42 q28 u0 u1)))) - (w64 (x42 * q28.Every)))) + (dlongS q28))), w64 (x42 + 1), Z298⟩, ⟨hp329.1, hleL261⟩, hp329.2, (hF391.region (by kernel_rfl) (by kernel_rfl)).anyβ _ (by kernel_rfl), hM385.keep (List.Sublist.slnil)⟩
   · -- no
    have hp392 := hp273.2 hb284; clear hp273
    refine wp_exit ?_
    refine thx ?_
    refine thx ?_
    refine ibx ?_
    refine thn ?_
    refine sqH ?_; intro hQ393Q hQ393
    refine s1 hF283 68 (.int .i64 x10) ?_; intro a394 hF395; clear hF283
    refine s1 hF395 4 (.int .i64 x10) ?_; intro a396 hF397; clear hF395
    refine nlH (hQ393 _ _ ?_); clear hQ393 hQ393Q
    refine wp_ret ?_
    refine rt (fn := Try.f48) (v := .int .i64 x10) hF397 (re1 hF397 (fn := Try.f48) rfl (by kernel_rfl)) ?_
    exact ⟨x10, rfl, hp392, hM272.below⟩

end Go.Proofs.Ytginlmgkimfjmaa
