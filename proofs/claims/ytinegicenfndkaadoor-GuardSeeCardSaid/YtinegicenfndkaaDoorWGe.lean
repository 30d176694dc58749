/- The walks, made by program: each call does what its pure predicate says. -/
import Derived.Test.YtinegicenfndkaaDoorPGe
import Derived.Test.YtinegicenfndkaaDoorWGd
set_option linter.unusedVariables false
set_option linter.unusedSimpArgs false
namespace Go.Proofs.YtinegicenfndkaaDoor
open Go.Sy Go.RowKit
theorem gsee_fun (u0 : Guard) (u1 : List Int) (u2 : Int) (hpre : ∀ x ∈ u1, 0 ≤ x ∧ x ≤ 255) (ao1 : Option Addr) (cap2 : Nat) (Z : Fz) (w : World) (hs3 : SlR (tyInt .u8) Z ao1 cap2 u1) (hZ : Z.on w) : Calls Tryd.prog 39 #[.agg #[.int .i64 u0.Key, .int .i64 u0.Last, .int .i64 u0.Bad, .int .i64 u0.State], .slice ao1 u1.length cap2, .int .i64 u2] w fun e w' => e = .returned (.tuple #[.agg #[.int .i64 (((gseeS u0 u1 u2).1).Key), .int .i64 (((gseeS u0 u1 u2).1).Last), .int .i64 (((gseeS u0 u1 u2).1).Bad), .int .i64 (((gseeS u0 u1 u2).1).State)], .int .i64 ((gseeS u0 u1 u2).2)]) ∧ Below w.heap.size w w' :=
  (gsee_walk u0 u1 u2 ao1 cap2 Z w hs3 hZ (gsee_ok u0 u1 u2 hpre)).mono fun _ _ ⟨r, he, hk, hb⟩ => ⟨by subst hk; exact he, hb⟩

theorem beq_fun (u0 : List Int) (u1 : List Int) (ao1 : Option Addr) (cap2 : Nat) (ao4 : Option Addr) (cap5 : Nat) (Z : Fz) (w : World) (hs3 : SlR (tyInt .u8) Z ao1 cap2 u0) (hs6 : SlR (tyInt .u8) Z ao4 cap5 u1) (hZ : Z.on w) : Calls Tryd.prog 45 #[.slice ao1 u0.length cap2, .slice ao4 u1.length cap5] w fun e w' => e = .returned (.bool (beqS u0 u1)) ∧ Below w.heap.size w w' :=
  (beq_walk u0 u1 ao1 cap2 ao4 cap5 Z w hs3 hs6 hZ (beq_ok u0 u1)).mono fun _ _ ⟨r, he, hk, hb⟩ => ⟨by subst hk; exact he, hb⟩

theorem rofb_fun (u0 : List Int) (hpre : (∀ x ∈ u0, 0 ≤ x ∧ x ≤ 255) ∧ u0.length ≤ 1000) (ao1 : Option Addr) (cap2 : Nat) (Z : Fz) (w : World) (hs3 : SlR (tyInt .u8) Z ao1 cap2 u0) (hg5 : SlR (tyInt .u8) Z (some ⟨5, 0, none⟩) 64 deBruijn64) (hZ : Z.on w) : Calls Tryd.prog 76 #[.slice ao1 u0.length cap2] w fun e w' => e = .returned (str (ofb u0)) ∧ Below w.heap.size w w' :=
  (rofb_walk u0 ao1 cap2 Z w hs3 hg5 hZ (rofb_ok u0 hpre)).mono fun _ _ ⟨r, he, hk, hb⟩ => ⟨by subst hk; exact he, hb⟩

set_option maxRecDepth 100000 in
set_option maxHeartbeats 0 in
theorem guarded_walk   (Z : Fz) (w : World)  (hZ : Z.on w) {K : Bool → Prop} (hp : guarded_vc  K) : Calls Tryd.prog 40 #[] w fun e w' => ∃ r : Bool, e = .returned (.bool r) ∧ K r ∧ Below w.heap.size w w' := by
 refine enter0 Tryd.func40 rfl rfl (by kernel_rfl) ?_; intro a0 hF0; have hM0 := Mem.start w Z hZ; have hle0 := Fz.le.refl Z
 refine sqH ?_; intro hQ1Q hQ1
 refine s1 hF0 0 (.bool false) ?_; intro a2 hF3; clear hF0
 refine nlH (hQ1 _ _ ?_); clear hQ1 hQ1Q
 refine sqH ?_; intro hQ4Q hQ4
 refine sn hF3 hM0 (fun b => .slice (some ⟨b, 0, none⟩) 3 3) [.int .u8 0, .int .u8 240, .int .u8 5] 5 (nog rfl _) rfl (by kernel_rfl) (by kernel_rfl) ?_; intro b5 a6 wd8 hF7 hM9; clear hF3 hM0
 have hM10 : Mem w.heap.size [] w Z [.own (tyInt .u8) 5 (some ⟨b5, 0, none⟩) 3 ([0, 240, 5] : List Int)] Z wd8 := hM9.rowOwn (T := (tyInt .u8)) (xs := ([0, 240, 5] : List Int)) 0 rfl (by decide) (by show 3 ≤ lim; decide) ((RepAll.one (T := (tyInt .u8)) (x := 0) rfl).append ((RepAll.one (T := (tyInt .u8)) (x := 240) rfl).append (RepAll.one (T := (tyInt .u8)) (x := 5) rfl))); clear hM9
 obtain ⟨Z11, hle12, hM13, hs14⟩ := hM10.freeze 0 rfl
 replace hle0 := Fz.le.trans hle0 hle12
 have hM15 : Mem w.heap.size [] w Z [] Z11 wd8 := hM13; clear hM13
 have hc16 := hp.1; have hp17 := hp.2; clear hp
 refine cl hF7 44 #[.int .i64 7, .int .i64 3, .slice (some ⟨b5, 0, none⟩) ([0, 240, 5] : List Int).length 3] (nog rfl _) rfl (by kernel_rfl) (by kernel_rfl) ?_
 refine (gput_fun 7 3 ([0, 240, 5] : List Int) hc16 (some ⟨b5, 0, none⟩) 3 _ _ hs14 hM15.fz).mono ?_; rintro _ wd18 ⟨ao22, cap23, Z24, rfl, hm⟩; refine ⟨_, rfl, ?_⟩; intro a19 hF20; have hM21 := hM15.callZ hm; have hle25 := hm.ext.le; clear hm hM15 hF7
 replace hs14 := hs14.mono hle25
 replace hle0 := Fz.le.trans hle0 hle25
 have hM26 : Mem w.heap.size [] w Z [.own (tyInt .u8) 5 ao22 cap23 ((gputS 7 3 ([0, 240, 5] : List Int)).1)] Z24 wd18 := hM21; clear hM21
 have hp27 := hp17 (hM26.ownSmall 0 rfl); clear hp17
 refine s1 hF20 5 (.tuple #[.slice ao22 ((gputS 7 3 ([0, 240, 5] : List Int)).1).length cap23, .int .i64 ((gputS 7 3 ([0, 240, 5] : List Int)).2)]) ?_; intro a28 hF29; clear hF20
 refine s1 hF29 8 (.slice ao22 ((gputS 7 3 ([0, 240, 5] : List Int)).1).length cap23) ?_; intro a30 hF31; clear hF29
 refine s1 hF31 9 (.int .i64 ((gputS 7 3 ([0, 240, 5] : List Int)).2)) ?_; intro a32 hF33; clear hF31
 refine s1 hF33 1 (.slice ao22 ((gputS 7 3 ([0, 240, 5] : List Int)).1).length cap23) ?_; intro a34 hF35; clear hF33
 refine s1 hF35 2 (.int .i64 ((gputS 7 3 ([0, 240, 5] : List Int)).2)) ?_; intro a36 hF37; clear hF35
 refine nlH (hQ4 _ _ ?_); clear hQ4 hQ4Q
 refine sqH ?_; intro hQ38Q hQ38
 refine s1 hF37 11 (.agg #[.int .i64 7, .int .i64 2, .int .i64 0, .int .i64 0]) ?_; intro a39 hF40; clear hF37
 refine s1 hF40 12 (.slice ao22 ((gputS 7 3 ([0, 240, 5] : List Int)).1).length cap23) ?_; intro a41 hF42; clear hF40
 obtain ⟨Z43, hle44, hM45, hs46⟩ := hM26.freeze 0 rfl
 replace hs14 := hs14.mono hle44
 replace hle0 := Fz.le.trans hle0 hle44
 have hM47 : Mem w.heap.size [] w Z [] Z43 wd18 := hM45; clear hM45
 have hc48 := hp27.1; have hp49 := hp27.2; clear hp27
 refine fcl hF42 hM47 (.tuple #[.agg #[.int .i64 (((gseeS (⟨7, 2, 0, 0⟩ : Guard) ((gputS 7 3 ([0, 240, 5] : List Int)).1) 1).1).Key), .int .i64 (((gseeS (⟨7, 2, 0, 0⟩ : Guard) ((gputS 7 3 ([0, 240, 5] : List Int)).1) 1).1).Last), .int .i64 (((gseeS (⟨7, 2, 0, 0⟩ : Guard) ((gputS 7 3 ([0, 240, 5] : List Int)).1) 1).1).Bad), .int .i64 (((gseeS (⟨7, 2, 0, 0⟩ : Guard) ((gputS 7 3 ([0, 240, 5] : List Int)).1) 1).1).State)], .int .i64 ((gseeS (⟨7, 2, 0, 0⟩ : Guard) ((gputS 7 3 ([0, 240, 5] : List Int)).1) 1).2)]) 39 #[.agg #[.int .i64 7, .int .i64 2, .int .i64 0, .int .i64 0], .slice ao22 ((gputS 7 3 ([0, 240, 5] : List Int)).1).length cap23, .int .i64 1] (nog rfl _) rfl (by kernel_rfl) (fun _ => by kernel_rfl) (gsee_fun (⟨7, 2, 0, 0⟩ : Guard) ((gputS 7 3 ([0, 240, 5] : List Int)).1) 1 hc48 ao22 cap23 _ _ hs46 hM47.fz) ?_; intro a50 wd52 hF51 hM53; clear hF42 hM47
 refine s1 hF51 10 (.tuple #[.agg #[.int .i64 (((gseeS (⟨7, 2, 0, 0⟩ : Guard) ((gputS 7 3 ([0, 240, 5] : List Int)).1) 1).1).Key), .int .i64 (((gseeS (⟨7, 2, 0, 0⟩ : Guard) ((gputS 7 3 ([0, 240, 5] : List Int)).1) 1).1).Last), .int .i64 (((gseeS (⟨7, 2, 0, 0⟩ : Guard) ((gputS 7 3 ([0, 240, 5] : List Int)).1) 1).1).Bad), .int .i64 (((gseeS (⟨7, 2, 0, 0⟩ : Guard) ((gputS 7 3 ([0, 240, 5] : List Int)).1) 1).1).State)], .int .i64 ((gseeS (⟨7, 2, 0, 0⟩ : Guard) ((gputS 7 3 ([0, 240, 5] : List Int)).1) 1).2)]) ?_; intro a54 hF55; clear hF51
 refine s1 hF55 14 (.agg #[.int .i64 (((gseeS (⟨7, 2, 0, 0⟩ : Guard) ((gputS 7 3 ([0, 240, 5] : List Int)).1) 1).1).Key), .int .i64 (((gseeS (⟨7, 2, 0, 0⟩ : Guard) ((gputS 7 3 ([0, 240, 5] : List Int)).1) 1).1).Last), .int .i64 (((gseeS (⟨7, 2, 0, 0⟩ : Guard) ((gputS 7 3 ([0, 240, 5] : List Int)).1) 1).1).Bad), .int .i64 (((gseeS (⟨7, 2, 0, 0⟩ : Guard) ((gputS 7 3 ([0, 240, 5] : List Int)).1) 1).1).State)]) ?_; intro a56 hF57; clear hF55
 refine s1 hF57 15 (.int .i64 ((gseeS (⟨7, 2, 0, 0⟩ : Guard) ((gputS 7 3 ([0, 240, 5] : List Int)).1) 1).2)) ?_; intro a58 hF59; clear hF57
 refine sn hF59 hM53 (fun b => .pointer (some ⟨b, 0, none⟩)) [.int .i64 0, .int .i64 0, .int .i64 0, .int .i64 0] 62 (nog rfl _) rfl (by kernel_rfl) (by kernel_rfl) ?_; intro b60 a61 wd63 hF62 hM64; clear hF59 hM53
 refine sr hF62 hM64 0 [.int .i64 (((gseeS (⟨7, 2, 0, 0⟩ : Guard) ((gputS 7 3 ([0, 240, 5] : List Int)).1) 1).1).Key), .int .i64 (((gseeS (⟨7, 2, 0, 0⟩ : Guard) ((gputS 7 3 ([0, 240, 5] : List Int)).1) 1).1).Last), .int .i64 (((gseeS (⟨7, 2, 0, 0⟩ : Guard) ((gputS 7 3 ([0, 240, 5] : List Int)).1) 1).1).Bad), .int .i64 (((gseeS (⟨7, 2, 0, 0⟩ : Guard) ((gputS 7 3 ([0, 240, 5] : List Int)).1) 1).1).State)] (b := b60) (off := 0) (cs := [.int .i64 0, .int .i64 0, .int .i64 0, .int .i64 0]) (ty := 62) (u := .agg #[.int .i64 (((gseeS (⟨7, 2, 0, 0⟩ : Guard) ((gputS 7 3 ([0, 240, 5] : List Int)).1) 1).1).Key), .int .i64 (((gseeS (⟨7, 2, 0, 0⟩ : Guard) ((gputS 7 3 ([0, 240, 5] : List Int)).1) 1).1).Last), .int .i64 (((gseeS (⟨7, 2, 0, 0⟩ : Guard) ((gputS 7 3 ([0, 240, 5] : List Int)).1) 1).1).Bad), .int .i64 (((gseeS (⟨7, 2, 0, 0⟩ : Guard) ((gputS 7 3 ([0, 240, 5] : List Int)).1) 1).1).State)]) (nog rfl _) rfl rfl (by kernel_rfl) (by kernel_rfl) (by kernel_rfl) (by kernel_rfl) (by kernel_rfl) (by kernel_rfl) (by kernel_rfl) ?_; intro wd65 hM66; clear hM64
 refine s1 hF62 4 (.int .i64 ((gseeS (⟨7, 2, 0, 0⟩ : Guard) ((gputS 7 3 ([0, 240, 5] : List Int)).1) 1).2)) ?_; intro a67 hF68; clear hF62
 have hM69 : Mem w.heap.size [] w Z [.row b60 [.int .i64 (((gseeS (⟨7, 2, 0, 0⟩ : Guard) ((gputS 7 3 ([0, 240, 5] : List Int)).1) 1).1).Key), .int .i64 (((gseeS (⟨7, 2, 0, 0⟩ : Guard) ((gputS 7 3 ([0, 240, 5] : List Int)).1) 1).1).Last), .int .i64 (((gseeS (⟨7, 2, 0, 0⟩ : Guard) ((gputS 7 3 ([0, 240, 5] : List Int)).1) 1).1).Bad), .int .i64 (((gseeS (⟨7, 2, 0, 0⟩ : Guard) ((gputS 7 3 ([0, 240, 5] : List Int)).1) 1).1).State)] 62] Z43 wd65 := hM66; clear hM66
 refine nlH (hQ38 _ _ ?_); clear hQ38 hQ38Q
 have hF70 : Fr 38 [] [⟨1, [], .slice ao22 ((gputS 7 3 ([0, 240, 5] : List Int)).1).length cap23⟩, ⟨2, [], .int .i64 ((gputS 7 3 ([0, 240, 5] : List Int)).2)⟩, ⟨3, [], .pointer (some ⟨b60, 0, none⟩)⟩, ⟨4, [], .int .i64 ((gseeS (⟨7, 2, 0, 0⟩ : Guard) ((gputS 7 3 ([0, 240, 5] : List Int)).1) 1).2)⟩] a67 := hF68.region (by kernel_rfl) (by kernel_rfl); clear hF68
 refine sqH ?_; intro hQ71Q hQ71
 refine s1 hF70 16 (.int .i64 ((gputS 7 3 ([0, 240, 5] : List Int)).2)) ?_; intro a72 hF73; clear hF70
 refine s1 hF73 17 (.bool (((gputS 7 3 ([0, 240, 5] : List Int)).2) == 0)) ?_; intro a74 hF75; clear hF73
 refine s1 hF75 18 (.bool (((gputS 7 3 ([0, 240, 5] : List Int)).2) == 0)) ?_; intro a76 hF77; clear hF75
 have hF78 := hF77.atom ((((gputS 7 3 ([0, 240, 5] : List Int)).2) == 0) == true) (by kernel_rfl); clear hF77
 refine gp hF78 19 0 [] (((gputS 7 3 ([0, 240, 5] : List Int)).2) == 0) (.int .i64 ((gseeS (⟨7, 2, 0, 0⟩ : Guard) ((gputS 7 3 ([0, 240, 5] : List Int)).1) 1).2)) rfl rfl ?_; intro a79 hF80; clear hF78
 refine gp hF80 20 0 [] (((gputS 7 3 ([0, 240, 5] : List Int)).2) == 0) (.bool (((gseeS (⟨7, 2, 0, 0⟩ : Guard) ((gputS 7 3 ([0, 240, 5] : List Int)).1) 1).2) == 0)) rfl rfl ?_; intro a81 hF82; clear hF80
 refine st hF82 (.bool ((((gputS 7 3 ([0, 240, 5] : List Int)).2) == 0) && (((gseeS (⟨7, 2, 0, 0⟩ : Guard) ((gputS 7 3 ([0, 240, 5] : List Int)).1) 1).2) == 0))) (nog rfl _) rfl (by kernel_rfl) (pk_and hF82 (g := []) (m := 0) (b := ((gputS 7 3 ([0, 240, 5] : List Int)).2) == 0) (v := ((gseeS (⟨7, 2, 0, 0⟩ : Guard) ((gputS 7 3 ([0, 240, 5] : List Int)).1) 1).2) == 0) rfl (by kernel_rfl) (by kernel_rfl) (by kernel_rfl) rfl) ?_; intro a83 hF84; clear hF82
 refine s1 hF84 22 (.bool ((((gputS 7 3 ([0, 240, 5] : List Int)).2) == 0) && (((gseeS (⟨7, 2, 0, 0⟩ : Guard) ((gputS 7 3 ([0, 240, 5] : List Int)).1) 1).2) == 0))) ?_; intro a85 hF86; clear hF84
 have hF87 := hF86.atom (((((gputS 7 3 ([0, 240, 5] : List Int)).2) == 0) && (((gseeS (⟨7, 2, 0, 0⟩ : Guard) ((gputS 7 3 ([0, 240, 5] : List Int)).1) 1).2) == 0)) == true) (by kernel_rfl); clear hF86
 refine gp hF87 23 1 [] ((((gputS 7 3 ([0, 240, 5] : List Int)).2) == 0) && (((gseeS (⟨7, 2, 0, 0⟩ : Guard) ((gputS 7 3 ([0, 240, 5] : List Int)).1) 1).2) == 0)) (.slice ao22 ((gputS 7 3 ([0, 240, 5] : List Int)).1).length cap23) rfl rfl ?_; intro a88 hF89; clear hF87
 refine gp hF89 24 1 [] ((((gputS 7 3 ([0, 240, 5] : List Int)).2) == 0) && (((gseeS (⟨7, 2, 0, 0⟩ : Guard) ((gputS 7 3 ([0, 240, 5] : List Int)).1) 1).2) == 0)) (.int .i64 (((gputS 7 3 ([0, 240, 5] : List Int)).1).length : Int)) rfl rfl ?_; intro a90 hF91; clear hF89
 refine gp hF91 25 1 [] ((((gputS 7 3 ([0, 240, 5] : List Int)).2) == 0) && (((gseeS (⟨7, 2, 0, 0⟩ : Guard) ((gputS 7 3 ([0, 240, 5] : List Int)).1) 1).2) == 0)) (.bool ((((gputS 7 3 ([0, 240, 5] : List Int)).1).length : Int) == 3)) rfl rfl ?_; intro a92 hF93; clear hF91
 refine st hF93 (.bool (((((gputS 7 3 ([0, 240, 5] : List Int)).2) == 0) && (((gseeS (⟨7, 2, 0, 0⟩ : Guard) ((gputS 7 3 ([0, 240, 5] : List Int)).1) 1).2) == 0)) && ((((gputS 7 3 ([0, 240, 5] : List Int)).1).length : Int) == 3))) (nog rfl _) rfl (by kernel_rfl) (pk_and hF93 (g := []) (m := 1) (b := (((gputS 7 3 ([0, 240, 5] : List Int)).2) == 0) && (((gseeS (⟨7, 2, 0, 0⟩ : Guard) ((gputS 7 3 ([0, 240, 5] : List Int)).1) 1).2) == 0)) (v := (((gputS 7 3 ([0, 240, 5] : List Int)).1).length : Int) == 3) rfl (by kernel_rfl) (by kernel_rfl) (by kernel_rfl) rfl) ?_; intro a94 hF95; clear hF93
 refine s1 hF95 27 (.bool (((((gputS 7 3 ([0, 240, 5] : List Int)).2) == 0) && (((gseeS (⟨7, 2, 0, 0⟩ : Guard) ((gputS 7 3 ([0, 240, 5] : List Int)).1) 1).2) == 0)) && ((((gputS 7 3 ([0, 240, 5] : List Int)).1).length : Int) == 3))) ?_; intro a96 hF97; clear hF95
 have hF98 := hF97.atom ((((((gputS 7 3 ([0, 240, 5] : List Int)).2) == 0) && (((gseeS (⟨7, 2, 0, 0⟩ : Guard) ((gputS 7 3 ([0, 240, 5] : List Int)).1) 1).2) == 0)) && ((((gputS 7 3 ([0, 240, 5] : List Int)).1).length : Int) == 3)) == true) (by kernel_rfl); clear hF97
 refine gp hF98 28 2 [] (((((gputS 7 3 ([0, 240, 5] : List Int)).2) == 0) && (((gseeS (⟨7, 2, 0, 0⟩ : Guard) ((gputS 7 3 ([0, 240, 5] : List Int)).1) 1).2) == 0)) && ((((gputS 7 3 ([0, 240, 5] : List Int)).1).length : Int) == 3)) (.slice ao22 ((gputS 7 3 ([0, 240, 5] : List Int)).1).length cap23) rfl rfl ?_; intro a99 hF100; clear hF98
 rcases Bool.eq_false_or_eq_true (((((gputS 7 3 ([0, 240, 5] : List Int)).2) == 0) && (((gseeS (⟨7, 2, 0, 0⟩ : Guard) ((gputS 7 3 ([0, 240, 5] : List Int)).1) 1).2) == 0)) && ((((gputS 7 3 ([0, 240, 5] : List Int)).1).length : Int) == 3)) with hb101 | hb101
 · -- true
  have hp102 := hp49.1 hb101; clear hp49
  have hF103 := hF100.reval (d := 27) (c := []) (v := .bool (((((gputS 7 3 ([0, 240, 5] : List Int)).2) == 0) && (((gseeS (⟨7, 2, 0, 0⟩ : Guard) ((gputS 7 3 ([0, 240, 5] : List Int)).1) 1).2) == 0)) && ((((gputS 7 3 ([0, 240, 5] : List Int)).1).length : Int) == 3))) (by kernel_rfl) (.bool true) (by rw [hb101]); clear hF100
  have hF104 := hF103.setc (d := 28) (c := [2]) (v := .slice ao22 ((gputS 7 3 ([0, 240, 5] : List Int)).1).length cap23) (by kernel_rfl) (v' := .slice ao22 ((gputS 7 3 ([0, 240, 5] : List Int)).1).length cap23) (by rw [hb101]; kernel_rfl); clear hF103
  have hc105 := hp102.1; have hp106 := hp102.2; clear hp102
  refine ix hF104 (T := (tyInt .u8)) (xs := (gputS 7 3 ([0, 240, 5] : List Int)).1) hs46 (1 : Int) hc105 (k := .i64) (e := 5) (bytes := 1) (by rw [wanted_of hF104 (b := true) rfl rfl (by kernel_rfl) (by kernel_rfl)]; rfl) rfl (by kernel_rfl) rfl (by kernel_rfl) (by kernel_rfl) (by kernel_rfl) ?_; intro b107 off108 cs109 q110 a114 hq111 hP112 hT113 hF115; clear hF104
  have hp116 := hp106 q110 hq111; clear hp106
  obtain rfl : cs109 = ([.int .u8 q110] : List Value) := hT113
  refine st hF115 (.int .u8 q110) (by rw [wanted_of hF115 (b := true) rfl rfl (by kernel_rfl) (by kernel_rfl)]; rfl) rfl (by kernel_rfl) (lz hF115 hM69.fz hP112 0 (g := []) rfl (by kernel_rfl) (by kernel_rfl) (by kernel_rfl) rfl) ?_; intro a117 hF118; clear hF115
  refine st hF118 (.bool (q110 == 243)) (by rw [wanted_of hF118 (b := true) rfl rfl (by kernel_rfl) (by kernel_rfl)]; rfl) rfl (by kernel_rfl) (p0 hF118 (by kernel_rfl)) ?_; intro a119 hF120; clear hF118
  refine s1 hF120 32 (.bool (q110 == 243)) ?_; intro a121 hF122; clear hF120
  refine s1 hF122 33 (.bool (q110 == 243)) ?_; intro a123 hF124; clear hF122
  have hF125 := hF124.atom ((q110 == 243) == true) (by kernel_rfl); clear hF124
  refine gd hF125 (.agg #[.int .i64 (((gseeS (⟨7, 2, 0, 0⟩ : Guard) ((gputS 7 3 ([0, 240, 5] : List Int)).1) 1).1).Key), .int .i64 (((gseeS (⟨7, 2, 0, 0⟩ : Guard) ((gputS 7 3 ([0, 240, 5] : List Int)).1) 1).1).Last), .int .i64 (((gseeS (⟨7, 2, 0, 0⟩ : Guard) ((gputS 7 3 ([0, 240, 5] : List Int)).1) 1).1).Bad), .int .i64 (((gseeS (⟨7, 2, 0, 0⟩ : Guard) ((gputS 7 3 ([0, 240, 5] : List Int)).1) 1).1).State)]) (m := 3) (cj := []) (bj := q110 == 243) rfl rfl (by kernel_rfl) rfl (by kernel_rfl) (by kernel_rfl) (by kernel_rfl) (fun hg => lda hF125 hM69 0 (g := [3]) (b := b60) (off := 0) (k := 4) (cs := [.int .i64 (((gseeS (⟨7, 2, 0, 0⟩ : Guard) ((gputS 7 3 ([0, 240, 5] : List Int)).1) 1).1).Key), .int .i64 (((gseeS (⟨7, 2, 0, 0⟩ : Guard) ((gputS 7 3 ([0, 240, 5] : List Int)).1) 1).1).Last), .int .i64 (((gseeS (⟨7, 2, 0, 0⟩ : Guard) ((gputS 7 3 ([0, 240, 5] : List Int)).1) 1).1).Bad), .int .i64 (((gseeS (⟨7, 2, 0, 0⟩ : Guard) ((gputS 7 3 ([0, 240, 5] : List Int)).1) 1).1).State)]) (vs := [.int .i64 (((gseeS (⟨7, 2, 0, 0⟩ : Guard) ((gputS 7 3 ([0, 240, 5] : List Int)).1) 1).1).Key), .int .i64 (((gseeS (⟨7, 2, 0, 0⟩ : Guard) ((gputS 7 3 ([0, 240, 5] : List Int)).1) 1).1).Last), .int .i64 (((gseeS (⟨7, 2, 0, 0⟩ : Guard) ((gputS 7 3 ([0, 240, 5] : List Int)).1) 1).1).Bad), .int .i64 (((gseeS (⟨7, 2, 0, 0⟩ : Guard) ((gputS 7 3 ([0, 240, 5] : List Int)).1) 1).1).State)]) (ty := 62) rfl (by kernel_rfl) (by kernel_rfl) (by kernel_rfl) (by kernel_rfl) (by kernel_rfl) hg) ?_; intro a126 hF127; clear hF125
  refine gp hF127 35 3 [] (q110 == 243) (.agg #[.int .i64 7, .int .i64 3, .int .i64 0, .int .i64 1]) rfl rfl ?_; intro a128 hF129; clear hF127
  refine gd hF129 (.bool (((((gseeS (⟨7, 2, 0, 0⟩ : Guard) ((gputS 7 3 ([0, 240, 5] : List Int)).1) 1).1).Key) == 7) && (((((gseeS (⟨7, 2, 0, 0⟩ : Guard) ((gputS 7 3 ([0, 240, 5] : List Int)).1) 1).1).Last) == 3) && (((((gseeS (⟨7, 2, 0, 0⟩ : Guard) ((gputS 7 3 ([0, 240, 5] : List Int)).1) 1).1).Bad) == 0) && (((((gseeS (⟨7, 2, 0, 0⟩ : Guard) ((gputS 7 3 ([0, 240, 5] : List Int)).1) 1).1).State) == 1) && true))))) (m := 3) (cj := []) (bj := q110 == 243) rfl rfl (by kernel_rfl) rfl (by kernel_rfl) (by kernel_rfl) (by kernel_rfl) (fun hg => eqs_run hF129 (g := [3]) (xs := #[.int .i64 (((gseeS (⟨7, 2, 0, 0⟩ : Guard) ((gputS 7 3 ([0, 240, 5] : List Int)).1) 1).1).Key), .int .i64 (((gseeS (⟨7, 2, 0, 0⟩ : Guard) ((gputS 7 3 ([0, 240, 5] : List Int)).1) 1).1).Last), .int .i64 (((gseeS (⟨7, 2, 0, 0⟩ : Guard) ((gputS 7 3 ([0, 240, 5] : List Int)).1) 1).1).Bad), .int .i64 (((gseeS (⟨7, 2, 0, 0⟩ : Guard) ((gputS 7 3 ([0, 240, 5] : List Int)).1) 1).1).State)]) (ys := #[.int .i64 7, .int .i64 3, .int .i64 0, .int .i64 1]) (b := ((((gseeS (⟨7, 2, 0, 0⟩ : Guard) ((gputS 7 3 ([0, 240, 5] : List Int)).1) 1).1).Key) == 7) && (((((gseeS (⟨7, 2, 0, 0⟩ : Guard) ((gputS 7 3 ([0, 240, 5] : List Int)).1) 1).1).Last) == 3) && (((((gseeS (⟨7, 2, 0, 0⟩ : Guard) ((gputS 7 3 ([0, 240, 5] : List Int)).1) 1).1).Bad) == 0) && (((((gseeS (⟨7, 2, 0, 0⟩ : Guard) ((gputS 7 3 ([0, 240, 5] : List Int)).1) 1).1).State) == 1) && true)))) rfl (by kernel_rfl) (by kernel_rfl) (by kernel_rfl) (by kernel_rfl) hg) ?_; intro a130 hF131; clear hF129
  refine st hF131 (.bool ((q110 == 243) && (((((gseeS (⟨7, 2, 0, 0⟩ : Guard) ((gputS 7 3 ([0, 240, 5] : List Int)).1) 1).1).Key) == 7) && (((((gseeS (⟨7, 2, 0, 0⟩ : Guard) ((gputS 7 3 ([0, 240, 5] : List Int)).1) 1).1).Last) == 3) && (((((gseeS (⟨7, 2, 0, 0⟩ : Guard) ((gputS 7 3 ([0, 240, 5] : List Int)).1) 1).1).Bad) == 0) && (((((gseeS (⟨7, 2, 0, 0⟩ : Guard) ((gputS 7 3 ([0, 240, 5] : List Int)).1) 1).1).State) == 1) && true)))))) (nog rfl _) rfl (by kernel_rfl) (pk_and hF131 (g := []) (m := 3) (b := q110 == 243) (v := ((((gseeS (⟨7, 2, 0, 0⟩ : Guard) ((gputS 7 3 ([0, 240, 5] : List Int)).1) 1).1).Key) == 7) && (((((gseeS (⟨7, 2, 0, 0⟩ : Guard) ((gputS 7 3 ([0, 240, 5] : List Int)).1) 1).1).Last) == 3) && (((((gseeS (⟨7, 2, 0, 0⟩ : Guard) ((gputS 7 3 ([0, 240, 5] : List Int)).1) 1).1).Bad) == 0) && (((((gseeS (⟨7, 2, 0, 0⟩ : Guard) ((gputS 7 3 ([0, 240, 5] : List Int)).1) 1).1).State) == 1) && true)))) rfl (by kernel_rfl) (by kernel_rfl) (by kernel_rfl) rfl) ?_; intro a132 hF133; clear hF131
  refine s1 hF133 0 (.bool ((q110 == 243) && (((((gseeS (⟨7, 2, 0, 0⟩ : Guard) ((gputS 7 3 ([0, 240, 5] : List Int)).1) 1).1).Key) == 7) && (((((gseeS (⟨7, 2, 0, 0⟩ : Guard) ((gputS 7 3 ([0, 240, 5] : List Int)).1) 1).1).Last) == 3) && (((((gseeS (⟨7, 2, 0, 0⟩ : Guard) ((gputS 7 3 ([0, 240, 5] : List Int)).1) 1).1).Bad) == 0) && (((((gseeS (⟨7, 2, 0, 0⟩ : Guard) ((gputS 7 3 ([0, 240, 5] : List Int)).1) 1).1).State) == 1) && true)))))) ?_; intro a134 hF135; clear hF133
  refine nlH (hQ71 _ _ ?_); clear hQ71 hQ71Q
  refine wp_ret ?_
  refine rt (fn := Tryd.f40) (v := .bool ((q110 == 243) && (((((gseeS (⟨7, 2, 0, 0⟩ : Guard) ((gputS 7 3 ([0, 240, 5] : List Int)).1) 1).1).Key) == 7) && (((((gseeS (⟨7, 2, 0, 0⟩ : Guard) ((gputS 7 3 ([0, 240, 5] : List Int)).1) 1).1).Last) == 3) && (((((gseeS (⟨7, 2, 0, 0⟩ : Guard) ((gputS 7 3 ([0, 240, 5] : List Int)).1) 1).1).Bad) == 0) && (((((gseeS (⟨7, 2, 0, 0⟩ : Guard) ((gputS 7 3 ([0, 240, 5] : List Int)).1) 1).1).State) == 1) && true)))))) hF135 (re1 hF135 (fn := Tryd.f40) rfl (by kernel_rfl)) ?_
  exact ⟨(q110 == 243) && (((((gseeS (⟨7, 2, 0, 0⟩ : Guard) ((gputS 7 3 ([0, 240, 5] : List Int)).1) 1).1).Key) == 7) && (((((gseeS (⟨7, 2, 0, 0⟩ : Guard) ((gputS 7 3 ([0, 240, 5] : List Int)).1) 1).1).Last) == 3) && (((((gseeS (⟨7, 2, 0, 0⟩ : Guard) ((gputS 7 3 ([0, 240, 5] : List Int)).1) 1).1).Bad) == 0) && (((((gseeS (⟨7, 2, 0, 0⟩ : Guard) ((gputS 7 3 ([0, 240, 5] : List Int)).1) 1).1).State) == 1) && true)))), rfl, hp116, hM69.below⟩
 · -- false
  have hp136 := hp49.2 hb101; clear hp49
  have hF137 := hF100.reval (d := 27) (c := []) (v := .bool (((((gputS 7 3 ([0, 240, 5] : List Int)).2) == 0) && (((gseeS (⟨7, 2, 0, 0⟩ : Guard) ((gputS 7 3 ([0, 240, 5] : List Int)).1) 1).2) == 0)) && ((((gputS 7 3 ([0, 240, 5] : List Int)).1).length : Int) == 3))) (by kernel_rfl) (.bool false) (by rw [hb101]); clear hF100
  have hF138 := hF137.setc (d := 28) (c := [2]) (v := .slice ao22 ((gputS 7 3 ([0, 240, 5] : List Int)).1).length cap23) (by kernel_rfl) (v' := undef) (by rw [hb101]; kernel_rfl); clear hF137
  refine sk hF138 (b := false) rfl rfl (by kernel_rfl) (by kernel_rfl) rfl rfl (by kernel_rfl) ?_; intro a139 hF140; clear hF138
  refine sk hF140 (b := false) rfl rfl (by kernel_rfl) (by kernel_rfl) rfl rfl (by kernel_rfl) ?_; intro a141 hF142; clear hF140
  refine sk hF142 (b := false) rfl rfl (by kernel_rfl) (by kernel_rfl) rfl rfl (by kernel_rfl) ?_; intro a143 hF144; clear hF142
  refine s1 hF144 32 (.bool false) ?_; intro a145 hF146; clear hF144
  refine s1 hF146 33 (.bool false) ?_; intro a147 hF148; clear hF146
  refine sk hF148 (b := false) rfl rfl (by kernel_rfl) (by kernel_rfl) rfl rfl (by kernel_rfl) ?_; intro a149 hF150; clear hF148
  refine sk hF150 (b := false) rfl rfl (by kernel_rfl) (by kernel_rfl) rfl rfl (by kernel_rfl) ?_; intro a151 hF152; clear hF150
  refine sk hF152 (b := false) rfl rfl (by kernel_rfl) (by kernel_rfl) rfl rfl (by kernel_rfl) ?_; intro a153 hF154; clear hF152
  refine s1 hF154 37 (.bool false) ?_; intro a155 hF156; clear hF154
  refine s1 hF156 0 (.bool false) ?_; intro a157 hF158; clear hF156
  refine nlH (hQ71 _ _ ?_); clear hQ71 hQ71Q
  refine wp_ret ?_
  refine rt (fn := Tryd.f40) (v := .bool false) hF158 (re1 hF158 (fn := Tryd.f40) rfl (by kernel_rfl)) ?_
  exact ⟨false, rfl, hp136, hM69.below⟩

set_option maxRecDepth 100000 in
set_option maxHeartbeats 0 in
theorem lgsum_walk (u0 : Int) (u1 : List Int) (ao1 : Option Addr) (cap2 : Nat) (Z : Fz) (w : World) (hs3 : SlR (tyInt .u8) Z ao1 cap2 u1) (hg5 : SlR (tyInt .u8) Z (some ⟨5, 0, none⟩) 64 deBruijn64) (hZ : Z.on w) {K : Int → Prop} (hp : lgsum_vc u0 u1 K) : Calls Tryd.prog 42 #[.int .i64 u0, .slice ao1 u1.length cap2] w fun e w' => ∃ r : Int, e = .returned (.int .u8 r) ∧ K r ∧ Below w.heap.size w w' := by
 refine enter0 Tryd.func42 rfl rfl (by kernel_rfl) ?_; intro a0 hF0; have hM0 := Mem.start w Z hZ; have hle0 := Fz.le.refl Z
 have hp4 := hp (hs3.small); clear hp
 refine sqH ?_; intro hQ5Q hQ5
 refine s1 hF0 4 (.int .u8 0) ?_; intro a6 hF7; clear hF0
 refine nlH (hQ5 _ _ ?_); clear hQ5 hQ5Q
 refine sqH ?_; intro hQ8Q hQ8
 refine s1 hF7 6 (.int .i64 u0) ?_; intro a9 hF10; clear hF7
 refine s1 hF10 7 (.int .i64 (w64 (u0.tdiv 256))) ?_; intro a11 hF12; clear hF10
 refine s1 hF12 8 (.int .u8 (w8 (w64 (u0.tdiv 256)))) ?_; intro a13 hF14; clear hF12
 refine s1 hF14 9 (.int .i64 u0) ?_; intro a15 hF16; clear hF14
 refine s1 hF16 10 (.int .i64 (u0.tmod 256)) ?_; intro a17 hF18; clear hF16
 refine s1 hF18 11 (.int .u8 (w8 (u0.tmod 256))) ?_; intro a19 hF20; clear hF18
 refine sn hF20 hM0 (fun b => .slice (some ⟨b, 0, none⟩) 2 2) [.int .u8 (w8 (w64 (u0.tdiv 256))), .int .u8 (w8 (u0.tmod 256))] 5 (nog rfl _) rfl (by kernel_rfl) (by kernel_rfl) ?_; intro b21 a22 wd24 hF23 hM25; clear hF20 hM0
 refine s1 hF23 13 (.slice ao1 u1.length cap2) ?_; intro a26 hF27; clear hF23
 have hc28 := hp4.1; have hp29 := hp4.2; clear hp4
 refine slL hF27 (T := (tyInt .u8)) (xs := u1) hs3 (1 : Int) hc28 (k := .i64) (e := 5) (bytes := 1) (nog rfl _) rfl (by kernel_rfl) rfl (by kernel_rfl) (by kernel_rfl) (by kernel_rfl) ?_; intro ao30 cap31 a34 hn32 hs33 hF35; clear hF27
 have hM36 : Mem w.heap.size [] w Z [.own (tyInt .u8) 5 (some ⟨b21, 0, none⟩) 2 ([w8 (w64 (u0.tdiv 256)), w8 (u0.tmod 256)] : List Int)] Z wd24 := hM25.rowOwn (T := (tyInt .u8)) (xs := ([w8 (w64 (u0.tdiv 256)), w8 (u0.tmod 256)] : List Int)) 0 rfl (by decide) (by show 2 ≤ lim; decide) ((RepAll.one (T := (tyInt .u8)) (x := w8 (w64 (u0.tdiv 256))) rfl).append (RepAll.one (T := (tyInt .u8)) (x := w8 (u0.tmod 256)) rfl)); clear hM25
 have hc37 := hp29.1; have hp38 := hp29.2; clear hp29
 refine ap hF35 hM36 0 (T := (tyInt .u8)) (xs := ([w8 (w64 (u0.tdiv 256)), w8 (u0.tmod 256)] : List Int)) (ys := u1.drop (1 : Int).toNat) (ao := (some ⟨b21, 0, none⟩)) (cap := 2) (ao2 := ao30) (cap2 := cap31) (t := 32) (e := 5) (bytes := 1) (nog rfl _) rfl (by kernel_rfl) rfl (by kernel_rfl) (by kernel_rfl) (by kernel_rfl) rfl (Src.fz (by decide) hM36.fz hs33) hc37 ?_; intro ao39 cap40 a44 wd41 hnil42 hF45 hM43; clear hF35 hM36
 have hM46 : Mem w.heap.size [] w Z [.own (tyInt .u8) 5 ao39 cap40 (([w8 (w64 (u0.tdiv 256)), w8 (u0.tmod 256)] : List Int) ++ (u1.drop (1 : Int).toNat))] Z wd41 := hM43; clear hM43
 obtain ⟨Z47, hle48, hM49, hs50⟩ := hM46.freeze 0 rfl
 replace hs3 := hs3.mono hle48
 replace hg5 := hg5.mono hle48
 replace hs33 := hs33.mono hle48
 replace hle0 := Fz.le.trans hle0 hle48
 have hM51 : Mem w.heap.size [] w Z [] Z47 wd41 := hM49; clear hM49
 have hc52 := hp38.1; have hp53 := hp38.2; clear hp38
 refine fcl hF45 hM51 (str (ofb (([w8 (w64 (u0.tdiv 256)), w8 (u0.tmod 256)] : List Int) ++ (u1.drop (1 : Int).toNat)))) 76 #[.slice ao39 (([w8 (w64 (u0.tdiv 256)), w8 (u0.tmod 256)] : List Int) ++ (u1.drop (1 : Int).toNat)).length cap40] (nog rfl _) rfl (by kernel_rfl) (fun _ => by kernel_rfl) (rofb_fun (([w8 (w64 (u0.tdiv 256)), w8 (u0.tmod 256)] : List Int) ++ (u1.drop (1 : Int).toNat)) hc52 ao39 cap40 _ _ hs50 hg5 hM51.fz) ?_; intro a54 wd56 hF55 hM57; clear hF45 hM51
 refine s1 hF55 5 (str (ofb (([w8 (w64 (u0.tdiv 256)), w8 (u0.tmod 256)] : List Int) ++ (u1.drop (1 : Int).toNat)))) ?_; intro a58 hF59; clear hF55
 refine nlH (hQ8 _ _ ?_); clear hQ8 hQ8Q
 refine sqH ?_; intro hQ60Q hQ60
 refine s1 hF59 17 (str (ofb (([w8 (w64 (u0.tdiv 256)), w8 (u0.tmod 256)] : List Int) ++ (u1.drop (1 : Int).toNat)))) ?_; intro a61 hF62; clear hF59
 have hc63 := hp53.1; have hp64 := hp53.2; clear hp53
 refine fcl hF62 hM57 (str (sumR 3 (ofb (([w8 (w64 (u0.tdiv 256)), w8 (u0.tmod 256)] : List Int) ++ (u1.drop (1 : Int).toNat))))) 19 #[.int .i64 3, str (ofb (([w8 (w64 (u0.tdiv 256)), w8 (u0.tmod 256)] : List Int) ++ (u1.drop (1 : Int).toNat)))] (nog rfl _) rfl (by kernel_rfl) (fun _ => by kernel_rfl) (rsumof_fun 3 (ofb (([w8 (w64 (u0.tdiv 256)), w8 (u0.tmod 256)] : List Int) ++ (u1.drop (1 : Int).toNat))) hc63 _ _ hg5 hM57.fz) ?_; intro a65 wd67 hF66 hM68; clear hF62 hM57
 have hc69 := hp64.1; have hp70 := hp64.2; clear hp64
 refine cl hF66 54 #[str (sumR 3 (ofb (([w8 (w64 (u0.tdiv 256)), w8 (u0.tmod 256)] : List Int) ++ (u1.drop (1 : Int).toNat))))] (nog rfl _) rfl (by kernel_rfl) (by kernel_rfl) ?_
 refine (rvalue_fun (sumR 3 (ofb (([w8 (w64 (u0.tdiv 256)), w8 (u0.tmod 256)] : List Int) ++ (u1.drop (1 : Int).toNat)))) hc69 _ _ hM68.fz).mono ?_; rintro _ wd71 ⟨b75, ao76, cap77, Z79, rfl, hs78, hm⟩; refine ⟨_, rfl, ?_⟩; intro a72 hF73; have hM74 := hM68.callZ hm; have hle80 := hm.ext.le; clear hm hM68 hF66
 replace hs3 := hs3.mono hle80
 replace hg5 := hg5.mono hle80
 replace hs33 := hs33.mono hle80
 replace hs50 := hs50.mono hle80
 replace hle0 := Fz.le.trans hle0 hle80
 have hM81 : Mem w.heap.size [] w Z [.row b75 [.bool ((rvalueS (sumR 3 (ofb (([w8 (w64 (u0.tdiv 256)), w8 (u0.tmod 256)] : List Int) ++ (u1.drop (1 : Int).toNat))))).neg), .slice ao76 ((rvalueS (sumR 3 (ofb (([w8 (w64 (u0.tdiv 256)), w8 (u0.tmod 256)] : List Int) ++ (u1.drop (1 : Int).toNat))))).abs).length cap77] 93] Z79 wd71 := hM74; clear hM74
 have hc82 := hp70.1; have hp83 := hp70.2; clear hp70
 refine cl hF73 61 #[.pointer (some ⟨b75, 0, none⟩)] (nog rfl _) rfl (by kernel_rfl) (by kernel_rfl) ?_
 obtain ⟨r88, hr89⟩ : ∃ x, (gint64S (rvalueS (sumR 3 (ofb (([w8 (w64 (u0.tdiv 256)), w8 (u0.tmod 256)] : List Int) ++ (u1.drop (1 : Int).toNat)))))) = x := ⟨_, rfl⟩; have hp90 := hp83 r88 hr89; clear hp83
 have h9 := gint64_fun (rvalueS (sumR 3 (ofb (([w8 (w64 (u0.tdiv 256)), w8 (u0.tmod 256)] : List Int) ++ (u1.drop (1 : Int).toNat))))) hc82 b75 ao76 cap77 _ _ _ _ _ _ hs78 hM81 hM81.fz; rw [hr89] at h9; refine h9.mono ?_; clear h9; rintro _ wd84 ⟨ao92, cap93, Z95, rfl, hle96, hs94, hm⟩; refine ⟨_, rfl, ?_⟩; intro a85 hF86; have hM87 := hm; clear hm hM81 hF73
 replace hs3 := hs3.mono hle96
 replace hg5 := hg5.mono hle96
 replace hs33 := hs33.mono hle96
 replace hs50 := hs50.mono hle96
 replace hs78 := hs78.mono hle96
 replace hle0 := Fz.le.trans hle0 hle96
 have hM97 : Mem w.heap.size [] w Z [.row b75 [.bool r88.2.neg, .slice ao92 r88.2.abs.length cap93] 93] Z95 wd84 := hM87; clear hM87
 have hp98 := hp90 (hs94.small); clear hp90
 refine s1 hF86 21 (.int .u8 (w8 r88.1)) ?_; intro a99 hF100; clear hF86
 refine s1 hF100 4 (.int .u8 (w8 r88.1)) ?_; intro a101 hF102; clear hF100
 refine nlH (hQ60 _ _ ?_); clear hQ60 hQ60Q
 refine wp_ret ?_
 refine rt (fn := Tryd.f42) (v := .int .u8 (w8 r88.1)) hF102 (re1 hF102 (fn := Tryd.f42) rfl (by kernel_rfl)) ?_
 exact ⟨w8 r88.1, rfl, hp98, hM97.below⟩

end Go.Proofs.YtinegicenfndkaaDoor
