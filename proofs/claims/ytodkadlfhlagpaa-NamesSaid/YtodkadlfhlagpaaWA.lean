/- The walks, made by program: each call does what its pure predicate says. -/
import Derived.Test.YtodkadlfhlagpaaRows
import Derived.Test.YtodkadlfhlagpaaPA
set_option linter.unusedVariables false
set_option linter.unusedSimpArgs false
namespace Go.Proofs.Ytodkadlfhlagpaa
open Go.Sy Go.RowKit
theorem mixed : Try.prog.follows .mixedOrders = true := by kernel_rfl
theorem rdHealth : Rd Try.prog 28 tyHealth okHealth := by
  refine ⟨fun enc w fuel cs x h hw => ?_⟩
  have hu : Try.prog.underlying 28 = some (.struct _) := Try.underlying28
  have hl := rd_len hu h (m := 3) (by kernel_rfl)
  obtain ⟨q0, h0, k0⟩ := rd_field hu h hw 0 rfl (rd_int (P := Try.prog) (t := 3) (k := .i64) (by kernel_rfl)) (m := 1) (by kernel_rfl) (off := 0) rfl
  have e0 : (cs.drop 0).take 1 = [.int .i64 q0] := h0
  obtain ⟨q1, h1, k1⟩ := rd_field hu h hw 1 rfl (rd_int (P := Try.prog) (t := 3) (k := .i64) (by kernel_rfl)) (m := 1) (by kernel_rfl) (off := 1) rfl
  have e1 : (cs.drop 1).take 1 = [.int .i64 q1] := h1
  obtain ⟨q2, h2, k2⟩ := rd_field hu h hw 2 rfl (rd_int (P := Try.prog) (t := 3) (k := .i64) (by kernel_rfl)) (m := 1) (by kernel_rfl) (off := 2) rfl
  have e2 : (cs.drop 2).take 1 = [.int .i64 q2] := h2
  have z : cs.drop 3 = [] := List.drop_eq_nil_of_le (by omega)
  have g2 : cs.drop 2 = [.int .i64 q2] := by rw [show cs.drop 2 = (cs.drop 2).take 1 ++ cs.drop 3 from cut_at cs 2 1, e2, z]; rfl
  have g1 : cs.drop 1 = [.int .i64 q1, .int .i64 q2] := by rw [show cs.drop 1 = (cs.drop 1).take 1 ++ cs.drop 2 from cut_at cs 1 1, e1, g2]; rfl
  have g0 : cs.drop 0 = [.int .i64 q0, .int .i64 q1, .int .i64 q2] := by rw [show cs.drop 0 = (cs.drop 0).take 1 ++ cs.drop 1 from cut_at cs 0 1, e0, g1]; rfl
  refine ⟨⟨q0, q1, q2⟩, ?_, k0, k1, k2⟩
  rw [List.drop_zero] at g0
  exact g0

set_option maxRecDepth 100000 in
theorem sequal_walk (u0 : List Int) (u1 : List Int) (ao1 : Option Addr) (cap2 : Nat) (ao4 : Option Addr) (cap5 : Nat) (Z : Fz) (w : World) (hs3 : SlR (tyInt .i64) Z ao1 cap2 u0) (hs6 : SlR (tyInt .i64) Z ao4 cap5 u1) (hZ : Z.on w) {K : Bool → Prop} (hp : sequal_vc u0 u1 K) : Calls Try.prog 7 #[.slice ao1 u0.length cap2, .slice ao4 u1.length cap5] w fun e w' => ∃ r : Bool, e = .returned (.bool r) ∧ K r ∧ Below w.heap.size w w' := by
  refine enter0 Try.func7 rfl rfl (by kernel_rfl) ?_; intro a0 hF0; have hM0 := Mem.start w Z hZ; have hle0 := Fz.le.refl Z
  have hp7 := hp (hs3.small); clear hp
  have hp8 := hp7 (hs6.small); clear hp7
  have hF9 : Fr 26 [] [⟨0, [], .slice ao1 u0.length cap2⟩, ⟨1, [], .slice ao4 u1.length cap5⟩] a0 := hF0.region (by kernel_rfl) (by kernel_rfl); clear hF0
  refine sqR ?_
  refine st hF9 (.bool false) (nog rfl _) rfl (by kernel_rfl) (p0 hF9 (by kernel_rfl)) ?_; intro a10 hF11; clear hF9
  have hM12 : Mem w.heap.size [] w Z [] Z w := hM0; clear hM0
  refine nlT ?_
  refine wp_seq ?_
  have hF13 : Fr 26 [] [⟨0, [], .slice ao1 u0.length cap2⟩, ⟨1, [], .slice ao4 u1.length cap5⟩] a10 := hF11.region (by kernel_rfl) (by kernel_rfl); clear hF11
  refine sqR ?_
  refine st hF13 (.slice ao1 u0.length cap2) (nog rfl _) rfl (by kernel_rfl) (p0 hF13 (by kernel_rfl)) ?_; intro a14 hF15; clear hF13
  refine st hF15 (.int .i64 (u0.length : Int)) (nog rfl _) rfl (by kernel_rfl) (p0 hF15 (by kernel_rfl)) ?_; intro a16 hF17; clear hF15
  refine st hF17 (.slice ao4 u1.length cap5) (nog rfl _) rfl (by kernel_rfl) (p0 hF17 (by kernel_rfl)) ?_; intro a18 hF19; clear hF17
  refine st hF19 (.int .i64 (u1.length : Int)) (nog rfl _) rfl (by kernel_rfl) (p0 hF19 (by kernel_rfl)) ?_; intro a20 hF21; clear hF19
  refine st hF21 (.bool ((u0.length : Int) != (u1.length : Int))) (nog rfl _) rfl (by kernel_rfl) (p0 hF21 (by kernel_rfl)) ?_; intro a22 hF23; clear hF21
  have hM24 : Mem w.heap.size [] w Z [] Z w := hM12; clear hM12
  refine nlT ?_
  refine cd hF23 (t := (u0.length : Int) != (u1.length : Int)) (by kernel_rfl) (fun hb25 => ?_) (fun hb25 => ?_)
  · -- yes
    have hp26 := hp8.1 hb25; clear hp8
    have hF27 : Fr 26 [] [] a22 := hF23.region (by kernel_rfl) (by kernel_rfl); clear hF23
    refine sqR ?_
    refine st hF27 (.bool false) (nog rfl _) rfl (by kernel_rfl) (p0 hF27 (by kernel_rfl)) ?_; intro a28 hF29; clear hF27
    have hM30 : Mem w.heap.size [] w Z [] Z w := hM24; clear hM24
    refine nlT ?_
    refine wp_ret ?_
    refine thr ?_
    refine rt (fn := Try.f7) (v := .bool false) hF29 (re1 hF29 (fn := Try.f7) rfl (by kernel_rfl)) ?_
    exact ⟨false, rfl, hp26, hM30.below⟩
  · -- no
    have hp31 := hp8.2 hb25; clear hp8
    refine wp_skip ?_
    refine thn ?_
    refine wp_seq ?_
    have hF32 : Fr 26 [] [⟨0, [], .slice ao1 u0.length cap2⟩, ⟨1, [], .slice ao4 u1.length cap5⟩] a22 := hF23.region (by kernel_rfl) (by kernel_rfl); clear hF23
    refine sqR ?_
    refine st hF32 (.slice ao1 u0.length cap2) (nog rfl _) rfl (by kernel_rfl) (p0 hF32 (by kernel_rfl)) ?_; intro a33 hF34; clear hF32
    refine st hF34 (.int .i64 (u0.length : Int)) (nog rfl _) rfl (by kernel_rfl) (p0 hF34 (by kernel_rfl)) ?_; intro a35 hF36; clear hF34
    refine st hF36 (.int .i64 0) (nog rfl _) rfl (by kernel_rfl) (p0 hF36 (by kernel_rfl)) ?_; intro a37 hF38; clear hF36
    have hM39 : Mem w.heap.size [] w Z [] Z w := hM24; clear hM24
    refine nlT ?_
    refine wp_block ?_
    have hF40 : Fr 26 [] [⟨0, [], .slice ao1 u0.length cap2⟩, ⟨1, [], .slice ao4 u1.length cap5⟩, ⟨12, [], .int .i64 (u0.length : Int)⟩, ⟨13, [], .int .i64 0⟩] a37 := hF38.region (by kernel_rfl) (by kernel_rfl); clear hF38
    have hF42 : Fr 26 [] [⟨0, [], .slice ao1 u0.length cap2⟩, ⟨1, [], .slice ao4 u1.length cap5⟩, ⟨12, [], .int .i64 (u0.length : Int)⟩, ⟨13, [], .int .i64 0⟩] a37 := hF40.region (by kernel_rfl) (by kernel_rfl); clear hF40
    obtain ⟨inv41, mu41, hI45, hr44⟩ := hp31
    refine lp (ι := Int) (fun (s : Int) => [⟨0, [], .slice ao1 u0.length cap2⟩, ⟨1, [], .slice ao4 u1.length cap5⟩, ⟨12, [], .int .i64 (u0.length : Int)⟩, ⟨13, [], .int .i64 s⟩]) (fun (s : Int) => []) (fun (s : Int) => Z) (fun (s : Int) => inv41 s) (fun (s : Int) => mu41 s) 0 hI45 (by exact hF42.region (by kernel_rfl) (by kernel_rfl)) (by exact hM39) ?_
    rintro x13 hI43 a47 wd48 hF49 hM50
    have hF51 : Fr 26 [] [⟨0, [], .slice ao1 u0.length cap2⟩, ⟨1, [], .slice ao4 u1.length cap5⟩, ⟨12, [], .int .i64 (u0.length : Int)⟩, ⟨13, [], .int .i64 x13⟩] a47 := hF49; clear hF49 hF42
    have hM52 : Mem w.heap.size [] w Z [] Z wd48 := hM50; clear hM50 hM39
    have hp53 := hr44 x13 hI43
    have hF54 : Fr 26 [] [⟨0, [], .slice ao1 u0.length cap2⟩, ⟨1, [], .slice ao4 u1.length cap5⟩, ⟨12, [], .int .i64 (u0.length : Int)⟩, ⟨13, [], .int .i64 x13⟩] a47 := hF51.region (by kernel_rfl) (by kernel_rfl); clear hF51
    refine sqR ?_
    refine st hF54 (.bool (decide (x13 < (u0.length : Int)))) (nog rfl _) rfl (by kernel_rfl) (p0 hF54 (by kernel_rfl)) ?_; intro a55 hF56; clear hF54
    have hM57 : Mem w.heap.size [] w Z [] Z wd48 := hM52; clear hM52
    refine nlT ?_
    refine wp_seq ?_
    refine cd hF56 (t := decide (x13 < (u0.length : Int))) (by kernel_rfl) (fun hb58 => ?_) (fun hb58 => ?_)
    · -- yes
      have hp59 := hp53.1 hb58; clear hp53
      refine wp_skip ?_
      refine thn ?_
      refine wp_seq ?_
      refine wp_block ?_
      have hF60 : Fr 26 [] [⟨0, [], .slice ao1 u0.length cap2⟩, ⟨1, [], .slice ao4 u1.length cap5⟩, ⟨12, [], .int .i64 (u0.length : Int)⟩, ⟨13, [], .int .i64 x13⟩] a55 := hF56.region (by kernel_rfl) (by kernel_rfl); clear hF56
      refine sqR ?_
      refine st hF60 (.int .i64 x13) (nog rfl _) rfl (by kernel_rfl) (p0 hF60 (by kernel_rfl)) ?_; intro a61 hF62; clear hF60
      refine st hF62 (.int .i64 x13) (nog rfl _) rfl (by kernel_rfl) (p0 hF62 (by kernel_rfl)) ?_; intro a63 hF64; clear hF62
      have hM65 : Mem w.heap.size [] w Z [] Z wd48 := hM57; clear hM57
      refine nlT ?_
      have hF66 : Fr 26 [] [⟨0, [], .slice ao1 u0.length cap2⟩, ⟨1, [], .slice ao4 u1.length cap5⟩, ⟨5, [], .int .i64 x13⟩, ⟨12, [], .int .i64 (u0.length : Int)⟩, ⟨13, [], .int .i64 x13⟩] a63 := hF64.region (by kernel_rfl) (by kernel_rfl); clear hF64
      refine sqQ mixed (by kernel_rfl) hM65 ?_
      refine qst hF66 (.slice ao1 u0.length cap2) (nog rfl _) rfl (by kernel_rfl) (fun v67 hC => p0 hF66 (by kernel_rfl)) ?_; intro a68 hF69; clear hF66
      refine qst hF69 (.int .i64 x13) (nog rfl _) rfl (by kernel_rfl) (fun v70 hC => p0 hF69 (by kernel_rfl)) ?_; intro a71 hF72; clear hF69
      have hc74 := hp59.1; have hp75 := hp59.2; clear hp59
      refine qix hF72 (T := (tyInt .i64)) (xs := u0) hs3 x13 hc74 (k := .i64) (e := 3) (bytes := 8) (nog rfl _) rfl (by kernel_rfl) rfl (by kernel_rfl) (by kernel_rfl) (by kernel_rfl) ?_; intro b76 off77 cs78 q79 a83 hq80 hP81 hT82 hF84; clear hF72
      have hp85 := hp75 q79 hq80; clear hp75
      obtain rfl : cs78 = ([.int .i64 q79] : List Value) := hT82
      refine qst hF84 (.int .i64 q79) (nog rfl _) rfl (by kernel_rfl) (fun v86 hC => lz hF84 hC.fz hP81 0 (g := []) rfl (by kernel_rfl) (by kernel_rfl) (by kernel_rfl) rfl) ?_; intro a87 hF88; clear hF84
      refine qst hF88 (.slice ao4 u1.length cap5) (nog rfl _) rfl (by kernel_rfl) (fun v89 hC => p0 hF88 (by kernel_rfl)) ?_; intro a90 hF91; clear hF88
      refine qst hF91 (.int .i64 x13) (nog rfl _) rfl (by kernel_rfl) (fun v92 hC => p0 hF91 (by kernel_rfl)) ?_; intro a93 hF94; clear hF91
      have hc96 := hp85.1; have hp97 := hp85.2; clear hp85
      refine qix hF94 (T := (tyInt .i64)) (xs := u1) hs6 x13 hc96 (k := .i64) (e := 3) (bytes := 8) (nog rfl _) rfl (by kernel_rfl) rfl (by kernel_rfl) (by kernel_rfl) (by kernel_rfl) ?_; intro b98 off99 cs100 q101 a105 hq102 hP103 hT104 hF106; clear hF94
      have hp107 := hp97 q101 hq102; clear hp97
      obtain rfl : cs100 = ([.int .i64 q101] : List Value) := hT104
      refine qst hF106 (.int .i64 q101) (nog rfl _) rfl (by kernel_rfl) (fun v108 hC => lz hF106 hC.fz hP103 0 (g := []) rfl (by kernel_rfl) (by kernel_rfl) (by kernel_rfl) rfl) ?_; intro a109 hF110; clear hF106
      refine qst hF110 (.bool (q79 != q101)) (nog rfl _) rfl (by kernel_rfl) (fun v111 hC => p0 hF110 (by kernel_rfl)) ?_; intro a112 hF113; clear hF110
      refine qnl ?_; intro wd114 hM115; clear hM65
      refine cd hF113 (t := q79 != q101) (by kernel_rfl) (fun hb116 => ?_) (fun hb116 => ?_)
      · -- yes
        have hp117 := hp107.1 hb116; clear hp107
        have hF118 : Fr 26 [] [] a112 := hF113.region (by kernel_rfl) (by kernel_rfl); clear hF113
        refine sqR ?_
        refine st hF118 (.bool false) (nog rfl _) rfl (by kernel_rfl) (p0 hF118 (by kernel_rfl)) ?_; intro a119 hF120; clear hF118
        have hM121 : Mem w.heap.size [] w Z [] Z wd114 := hM115; clear hM115
        refine nlT ?_
        refine wp_ret ?_
        refine ibr ?_
        refine thr ?_
        refine thr ?_
        refine ibr ?_
        refine thr ?_
        refine rt (fn := Try.f7) (v := .bool false) hF120 (re1 hF120 (fn := Try.f7) rfl (by kernel_rfl)) ?_
        exact ⟨false, rfl, hp117, hM121.below⟩
      · -- no
        have hp122 := hp107.2 hb116; clear hp107
        refine wp_skip ?_
        refine ibn ?_
        refine thn ?_
        have hF123 : Fr 26 [] [⟨0, [], .slice ao1 u0.length cap2⟩, ⟨1, [], .slice ao4 u1.length cap5⟩, ⟨12, [], .int .i64 (u0.length : Int)⟩, ⟨13, [], .int .i64 x13⟩] a112 := hF113.region (by kernel_rfl) (by kernel_rfl); clear hF113
        refine wp_region_lit ?_
        refine st hF123 (.int .i64 (w64 (x13 + 1))) (nog rfl _) rfl (by kernel_rfl) (p0 hF123 (by kernel_rfl)) ?_; intro a124 hF125; clear hF123
        refine st hF125 (.int .i64 (w64 (x13 + 1))) (nog rfl _) rfl (by kernel_rfl) (p0 hF125 (by kernel_rfl)) ?_; intro a126 hF127; clear hF125
        have hM128 : Mem w.heap.size [] w Z [] Z wd114 := hM115; clear hM115
        refine nl ?_
        refine rd ?_
        exact ⟨w64 (x13 + 1), hp122.1, hp122.2, (hF127.region (by kernel_rfl) (by kernel_rfl)).anyβ _ (by kernel_rfl), hM128.keep (List.Sublist.slnil)⟩
    · -- no
      have hp129 := hp53.2 hb58; clear hp53
      refine wp_exit ?_
      refine thx ?_
      refine thx ?_
      refine ibx ?_
      refine thn ?_
      have hF130 : Fr 26 [] [] a55 := hF56.region (by kernel_rfl) (by kernel_rfl); clear hF56
      refine sqR ?_
      refine st hF130 (.bool true) (nog rfl _) rfl (by kernel_rfl) (p0 hF130 (by kernel_rfl)) ?_; intro a131 hF132; clear hF130
      have hM133 : Mem w.heap.size [] w Z [] Z wd48 := hM57; clear hM57
      refine nlT ?_
      refine wp_ret ?_
      refine rt (fn := Try.f7) (v := .bool true) hF132 (re1 hF132 (fn := Try.f7) rfl (by kernel_rfl)) ?_
      exact ⟨true, rfl, hp129, hM133.below⟩

set_option maxRecDepth 100000 in
theorem names_walk   (Z : Fz) (w : World)  (hZ : Z.on w) {K : Bool → Prop} (hp : names_vc  K) : Calls Try.prog 3 #[] w fun e w' => ∃ r : Bool, e = .returned (.bool r) ∧ K r ∧ Below w.heap.size w w' := by
  refine enter0 Try.func3 rfl rfl (by kernel_rfl) ?_; intro a0 hF0; have hM0 := Mem.start w Z hZ; have hle0 := Fz.le.refl Z
  have hF1 : Fr 28 [] [] a0 := hF0.region (by kernel_rfl) (by kernel_rfl); clear hF0
  refine sqR ?_
  refine st hF1 (.bool false) (nog rfl _) rfl (by kernel_rfl) (p0 hF1 (by kernel_rfl)) ?_; intro a2 hF3; clear hF1
  have hM4 : Mem w.heap.size [] w Z [] Z w := hM0; clear hM0
  refine nlT ?_
  have hF5 : Fr 28 [] [] a2 := hF3.region (by kernel_rfl) (by kernel_rfl); clear hF3
  refine sqR ?_
  refine sn hF5 hM4 (fun b => .slice (some ⟨b, 0, none⟩) 15 15) [.int .i64 0, .int .i64 1, .int .i64 2, .int .i64 3, .int .i64 4, .int .i64 5, .int .i64 6, .int .i64 7, .int .i64 8, .int .i64 9, .int .i64 10, .int .i64 11, .int .i64 12, .int .i64 13, .int .i64 14] 22 (nog rfl _) rfl (by kernel_rfl) (by kernel_rfl) ?_; intro b6 a7 wd9 hF8 hM10; clear hF5 hM4
  refine st hF8 (.slice (some ⟨b6, 0, none⟩) 15 15) (nog rfl _) rfl (by kernel_rfl) (p0 hF8 (by kernel_rfl)) ?_; intro a11 hF12; clear hF8
  have hM13 : Mem w.heap.size [] w Z [.row b6 [.int .i64 0, .int .i64 1, .int .i64 2, .int .i64 3, .int .i64 4, .int .i64 5, .int .i64 6, .int .i64 7, .int .i64 8, .int .i64 9, .int .i64 10, .int .i64 11, .int .i64 12, .int .i64 13, .int .i64 14] 22] Z wd9 := hM10; clear hM10
  refine nlT ?_
  refine wp_seq ?_
  have hF14 : Fr 28 [] [⟨1, [], .slice (some ⟨b6, 0, none⟩) 15 15⟩] a11 := hF12.region (by kernel_rfl) (by kernel_rfl); clear hF12
  refine sqR ?_
  refine st hF14 (.slice (some ⟨b6, 0, none⟩) 15 15) (nog rfl _) rfl (by kernel_rfl) (p0 hF14 (by kernel_rfl)) ?_; intro a15 hF16; clear hF14
  refine st hF16 (.int .i64 15) (nog rfl _) rfl (by kernel_rfl) (p0 hF16 (by kernel_rfl)) ?_; intro a17 hF18; clear hF16
  refine st hF18 (.int .i64 0) (nog rfl _) rfl (by kernel_rfl) (p0 hF18 (by kernel_rfl)) ?_; intro a19 hF20; clear hF18
  have hM21 : Mem w.heap.size [] w Z [.row b6 [.int .i64 0, .int .i64 1, .int .i64 2, .int .i64 3, .int .i64 4, .int .i64 5, .int .i64 6, .int .i64 7, .int .i64 8, .int .i64 9, .int .i64 10, .int .i64 11, .int .i64 12, .int .i64 13, .int .i64 14] 22] Z wd9 := hM13; clear hM13
  refine nlT ?_
  refine wp_block ?_
  have hF22 : Fr 28 [] [⟨7, [], .slice (some ⟨b6, 0, none⟩) 15 15⟩, ⟨8, [], .int .i64 15⟩, ⟨9, [], .int .i64 0⟩] a19 := hF20.region (by kernel_rfl) (by kernel_rfl); clear hF20
  have hM24 : Mem w.heap.size [] w Z [.own (tyInt .i64) 22 (some ⟨b6, 0, none⟩) 15 ([0, 1, 2, 3, 4, 5, 6, 7, 8, 9, 10, 11, 12, 13, 14] : List Int)] Z wd9 := hM21.rowOwn (T := (tyInt .i64)) (xs := ([0, 1, 2, 3, 4, 5, 6, 7, 8, 9, 10, 11, 12, 13, 14] : List Int)) 0 rfl (by decide) (by decide) ((RepAll.one (T := (tyInt .i64)) (x := 0) rfl).append ((RepAll.one (T := (tyInt .i64)) (x := 1) rfl).append ((RepAll.one (T := (tyInt .i64)) (x := 2) rfl).append ((RepAll.one (T := (tyInt .i64)) (x := 3) rfl).append ((RepAll.one (T := (tyInt .i64)) (x := 4) rfl).append ((RepAll.one (T := (tyInt .i64)) (x := 5) rfl).append ((RepAll.one (T := (tyInt .i64)) (x := 6) rfl).append ((RepAll.one (T := (tyInt .i64)) (x := 7) rfl).append ((RepAll.one (T := (tyInt .i64)) (x := 8) rfl).append ((RepAll.one (T := (tyInt .i64)) (x := 9) rfl).append ((RepAll.one (T := (tyInt .i64)) (x := 10) rfl).append ((RepAll.one (T := (tyInt .i64)) (x := 11) rfl).append ((RepAll.one (T := (tyInt .i64)) (x := 12) rfl).append ((RepAll.one (T := (tyInt .i64)) (x := 13) rfl).append (RepAll.one (T := (tyInt .i64)) (x := 14) rfl))))))))))))))); clear hM21
  obtain ⟨Z25, hle26, hM27, hs28⟩ := hM24.freeze 0 rfl
  replace hle0 := Fz.le.trans hle0 hle26
  have hM29 : Mem w.heap.size [] w Z [] Z25 wd9 := hM27; clear hM27
  have hF30 : Fr 28 [] [⟨7, [], .slice (some ⟨b6, 0, none⟩) ([0, 1, 2, 3, 4, 5, 6, 7, 8, 9, 10, 11, 12, 13, 14] : List Int).length 15⟩, ⟨8, [], .int .i64 15⟩, ⟨9, [], .int .i64 0⟩] a19 := hF22.region (by kernel_rfl) (by kernel_rfl); clear hF22
  obtain ⟨inv23, mu23, hI33, hr32⟩ := hp
  refine lp (ι := Int) (fun (s : Int) => [⟨7, [], .slice (some ⟨b6, 0, none⟩) ([0, 1, 2, 3, 4, 5, 6, 7, 8, 9, 10, 11, 12, 13, 14] : List Int).length 15⟩, ⟨8, [], .int .i64 15⟩, ⟨9, [], .int .i64 s⟩]) (fun (s : Int) => []) (fun (s : Int) => Z25) (fun (s : Int) => inv23 s) (fun (s : Int) => mu23 s) 0 hI33 (by exact hF30.region (by kernel_rfl) (by kernel_rfl)) (by exact hM29) ?_
  rintro x9 hI31 a35 wd36 hF37 hM38
  have hF39 : Fr 28 [] [⟨7, [], .slice (some ⟨b6, 0, none⟩) ([0, 1, 2, 3, 4, 5, 6, 7, 8, 9, 10, 11, 12, 13, 14] : List Int).length 15⟩, ⟨8, [], .int .i64 15⟩, ⟨9, [], .int .i64 x9⟩] a35 := hF37; clear hF37 hF30
  have hM40 : Mem w.heap.size [] w Z [] Z25 wd36 := hM38; clear hM38 hM29
  have hp41 := hr32 x9 hI31
  have hF42 : Fr 28 [] [⟨7, [], .slice (some ⟨b6, 0, none⟩) ([0, 1, 2, 3, 4, 5, 6, 7, 8, 9, 10, 11, 12, 13, 14] : List Int).length 15⟩, ⟨8, [], .int .i64 15⟩, ⟨9, [], .int .i64 x9⟩] a35 := hF39.region (by kernel_rfl) (by kernel_rfl); clear hF39
  refine sqR ?_
  refine st hF42 (.bool (decide (x9 < 15))) (nog rfl _) rfl (by kernel_rfl) (p0 hF42 (by kernel_rfl)) ?_; intro a43 hF44; clear hF42
  have hM45 : Mem w.heap.size [] w Z [] Z25 wd36 := hM40; clear hM40
  refine nlT ?_
  refine wp_seq ?_
  refine cd hF44 (t := decide (x9 < 15)) (by kernel_rfl) (fun hb46 => ?_) (fun hb46 => ?_)
  · -- yes
    have hp47 := hp41.1 hb46; clear hp41
    refine wp_skip ?_
    refine thn ?_
    refine wp_seq ?_
    refine wp_block ?_
    have hF48 : Fr 28 [] [⟨7, [], .slice (some ⟨b6, 0, none⟩) ([0, 1, 2, 3, 4, 5, 6, 7, 8, 9, 10, 11, 12, 13, 14] : List Int).length 15⟩, ⟨8, [], .int .i64 15⟩, ⟨9, [], .int .i64 x9⟩] a43 := hF44.region (by kernel_rfl) (by kernel_rfl); clear hF44
    refine sqR ?_
    refine st hF48 (.int .i64 x9) (nog rfl _) rfl (by kernel_rfl) (p0 hF48 (by kernel_rfl)) ?_; intro a49 hF50; clear hF48
    have hc51 := hp47.1; have hp52 := hp47.2; clear hp47
    refine ix hF50 (T := (tyInt .i64)) (xs := ([0, 1, 2, 3, 4, 5, 6, 7, 8, 9, 10, 11, 12, 13, 14] : List Int)) hs28 x9 hc51 (k := .i64) (e := 22) (bytes := 8) (nog rfl _) rfl (by kernel_rfl) rfl (by kernel_rfl) (by kernel_rfl) (by kernel_rfl) ?_; intro b53 off54 cs55 q56 a60 hq57 hP58 hT59 hF61; clear hF50
    have hp62 := hp52 q56 hq57; clear hp52
    obtain rfl : cs55 = ([.int .i64 q56] : List Value) := hT59
    refine st hF61 (.int .i64 q56) (nog rfl _) rfl (by kernel_rfl) (lz hF61 hM45.fz hP58 0 (g := []) rfl (by kernel_rfl) (by kernel_rfl) (by kernel_rfl) rfl) ?_; intro a63 hF64; clear hF61
    refine st hF64 (.int .i64 x9) (nog rfl _) rfl (by kernel_rfl) (p0 hF64 (by kernel_rfl)) ?_; intro a65 hF66; clear hF64
    refine st hF66 (.int .i64 q56) (nog rfl _) rfl (by kernel_rfl) (p0 hF66 (by kernel_rfl)) ?_; intro a67 hF68; clear hF66
    have hM69 : Mem w.heap.size [] w Z [] Z25 wd36 := hM45; clear hM45
    refine nlT ?_
    have hF70 : Fr 28 [] [⟨2, [], .int .i64 x9⟩, ⟨3, [], .int .i64 q56⟩, ⟨7, [], .slice (some ⟨b6, 0, none⟩) ([0, 1, 2, 3, 4, 5, 6, 7, 8, 9, 10, 11, 12, 13, 14] : List Int).length 15⟩, ⟨8, [], .int .i64 15⟩, ⟨9, [], .int .i64 x9⟩] a67 := hF68.region (by kernel_rfl) (by kernel_rfl); clear hF68
    refine sqR ?_
    refine st hF70 (.int .i64 q56) (nog rfl _) rfl (by kernel_rfl) (p0 hF70 (by kernel_rfl)) ?_; intro a71 hF72; clear hF70
    refine st hF72 (.int .i64 x9) (nog rfl _) rfl (by kernel_rfl) (p0 hF72 (by kernel_rfl)) ?_; intro a73 hF74; clear hF72
    refine st hF74 (.bool (q56 != x9)) (nog rfl _) rfl (by kernel_rfl) (p0 hF74 (by kernel_rfl)) ?_; intro a75 hF76; clear hF74
    have hM77 : Mem w.heap.size [] w Z [] Z25 wd36 := hM69; clear hM69
    refine nlT ?_
    refine cd hF76 (t := q56 != x9) (by kernel_rfl) (fun hb78 => ?_) (fun hb78 => ?_)
    · -- yes
      have hp79 := hp62.1 hb78; clear hp62
      have hF80 : Fr 28 [] [] a75 := hF76.region (by kernel_rfl) (by kernel_rfl); clear hF76
      refine sqR ?_
      refine st hF80 (.bool false) (nog rfl _) rfl (by kernel_rfl) (p0 hF80 (by kernel_rfl)) ?_; intro a81 hF82; clear hF80
      have hM83 : Mem w.heap.size [] w Z [] Z25 wd36 := hM77; clear hM77
      refine nlT ?_
      refine wp_ret ?_
      refine ibr ?_
      refine thr ?_
      refine thr ?_
      refine ibr ?_
      refine thr ?_
      refine rt (fn := Try.f3) (v := .bool false) hF82 (re1 hF82 (fn := Try.f3) rfl (by kernel_rfl)) ?_
      exact ⟨false, rfl, hp79, hM83.below⟩
    · -- no
      have hp84 := hp62.2 hb78; clear hp62
      refine wp_skip ?_
      refine ibn ?_
      refine thn ?_
      have hF85 : Fr 28 [] [⟨7, [], .slice (some ⟨b6, 0, none⟩) ([0, 1, 2, 3, 4, 5, 6, 7, 8, 9, 10, 11, 12, 13, 14] : List Int).length 15⟩, ⟨8, [], .int .i64 15⟩, ⟨9, [], .int .i64 x9⟩] a75 := hF76.region (by kernel_rfl) (by kernel_rfl); clear hF76
      refine wp_region_lit ?_
      refine st hF85 (.int .i64 (w64 (x9 + 1))) (nog rfl _) rfl (by kernel_rfl) (p0 hF85 (by kernel_rfl)) ?_; intro a86 hF87; clear hF85
      refine st hF87 (.int .i64 (w64 (x9 + 1))) (nog rfl _) rfl (by kernel_rfl) (p0 hF87 (by kernel_rfl)) ?_; intro a88 hF89; clear hF87
      have hM90 : Mem w.heap.size [] w Z [] Z25 wd36 := hM77; clear hM77
      refine nl ?_
      refine rd ?_
      exact ⟨w64 (x9 + 1), hp84.1, hp84.2, (hF89.region (by kernel_rfl) (by kernel_rfl)).anyβ _ (by kernel_rfl), hM90.keep (List.Sublist.slnil)⟩
  · -- no
    have hp91 := hp41.2 hb46; clear hp41
    refine wp_exit ?_
    refine thx ?_
    refine thx ?_
    refine ibx ?_
    refine thn ?_
    have hF92 : Fr 28 [] [] a43 := hF44.region (by kernel_rfl) (by kernel_rfl); clear hF44
    refine sqR ?_
    refine sn hF92 hM45 (fun b => .slice (some ⟨b, 0, none⟩) 17 17) [.int .i64 1000, .int .i64 64, .int .i64 2047, .int .i64 536870911, .int .i64 16, .int .i64 20, .int .i64 4000, .int .i64 16, .int .i64 16, .int .i64 16, .int .i64 300, .int .i64 60, .int .i64 20, .int .i64 4, .int .i64 6, .int .i64 1000000, .int .i64 100] 3 (nog rfl _) rfl (by kernel_rfl) (by kernel_rfl) ?_; intro b93 a94 wd96 hF95 hM97; clear hF92 hM45
    refine st hF95 (.slice (some ⟨b93, 0, none⟩) 17 17) (nog rfl _) rfl (by kernel_rfl) (p0 hF95 (by kernel_rfl)) ?_; intro a98 hF99; clear hF95
    have hM100 : Mem w.heap.size [] w Z [.row b93 [.int .i64 1000, .int .i64 64, .int .i64 2047, .int .i64 536870911, .int .i64 16, .int .i64 20, .int .i64 4000, .int .i64 16, .int .i64 16, .int .i64 16, .int .i64 300, .int .i64 60, .int .i64 20, .int .i64 4, .int .i64 6, .int .i64 1000000, .int .i64 100] 3] Z25 wd96 := hM97; clear hM97
    refine nlT ?_
    have hF101 : Fr 28 [] [⟨4, [], .slice (some ⟨b93, 0, none⟩) 17 17⟩] a98 := hF99.region (by kernel_rfl) (by kernel_rfl); clear hF99
    refine sqR ?_
    refine sn hF101 hM100 (fun b => .slice (some ⟨b, 0, none⟩) 19 19) [.int .i64 0, .int .i64 1, .int .i64 2, .int .i64 1, .int .i64 2, .int .i64 3, .int .i64 4, .int .i64 5, .int .i64 6, .int .i64 0, .int .i64 1, .int .i64 2, .int .i64 3, .int .i64 4, .int .i64 1, .int .i64 2, .int .i64 3, .int .i64 4, .int .i64 5] 3 (nog rfl _) rfl (by kernel_rfl) (by kernel_rfl) ?_; intro b102 a103 wd105 hF104 hM106; clear hF101 hM100
    refine st hF104 (.slice (some ⟨b102, 0, none⟩) 19 19) (nog rfl _) rfl (by kernel_rfl) (p0 hF104 (by kernel_rfl)) ?_; intro a107 hF108; clear hF104
    have hM109 : Mem w.heap.size [] w Z [.row b102 [.int .i64 0, .int .i64 1, .int .i64 2, .int .i64 1, .int .i64 2, .int .i64 3, .int .i64 4, .int .i64 5, .int .i64 6, .int .i64 0, .int .i64 1, .int .i64 2, .int .i64 3, .int .i64 4, .int .i64 1, .int .i64 2, .int .i64 3, .int .i64 4, .int .i64 5] 3, .row b93 [.int .i64 1000, .int .i64 64, .int .i64 2047, .int .i64 536870911, .int .i64 16, .int .i64 20, .int .i64 4000, .int .i64 16, .int .i64 16, .int .i64 16, .int .i64 300, .int .i64 60, .int .i64 20, .int .i64 4, .int .i64 6, .int .i64 1000000, .int .i64 100] 3] Z25 wd105 := hM106; clear hM106
    refine nlT ?_
    have hF110 : Fr 28 [] [⟨4, [], .slice (some ⟨b93, 0, none⟩) 17 17⟩, ⟨5, [], .slice (some ⟨b102, 0, none⟩) 19 19⟩] a107 := hF108.region (by kernel_rfl) (by kernel_rfl); clear hF108
    refine sqR ?_
    refine st hF110 (.slice (some ⟨b93, 0, none⟩) 17 17) (nog rfl _) rfl (by kernel_rfl) (p0 hF110 (by kernel_rfl)) ?_; intro a111 hF112; clear hF110
    refine sn hF112 hM109 (fun b => .slice (some ⟨b, 0, none⟩) 17 17) [.int .i64 1000, .int .i64 64, .int .i64 2047, .int .i64 536870911, .int .i64 16, .int .i64 20, .int .i64 4000, .int .i64 16, .int .i64 16, .int .i64 16, .int .i64 300, .int .i64 60, .int .i64 20, .int .i64 4, .int .i64 6, .int .i64 1000000, .int .i64 100] 3 (nog rfl _) rfl (by kernel_rfl) (by kernel_rfl) ?_; intro b113 a114 wd116 hF115 hM117; clear hF112 hM109
    have hM118 : Mem w.heap.size [] w Z [.row b113 [.int .i64 1000, .int .i64 64, .int .i64 2047, .int .i64 536870911, .int .i64 16, .int .i64 20, .int .i64 4000, .int .i64 16, .int .i64 16, .int .i64 16, .int .i64 300, .int .i64 60, .int .i64 20, .int .i64 4, .int .i64 6, .int .i64 1000000, .int .i64 100] 3, .row b102 [.int .i64 0, .int .i64 1, .int .i64 2, .int .i64 1, .int .i64 2, .int .i64 3, .int .i64 4, .int .i64 5, .int .i64 6, .int .i64 0, .int .i64 1, .int .i64 2, .int .i64 3, .int .i64 4, .int .i64 1, .int .i64 2, .int .i64 3, .int .i64 4, .int .i64 5] 3, .own (tyInt .i64) 3 (some ⟨b93, 0, none⟩) 17 ([1000, 64, 2047, 536870911, 16, 20, 4000, 16, 16, 16, 300, 60, 20, 4, 6, 1000000, 100] : List Int)] Z25 wd116 := hM117.rowOwn (T := (tyInt .i64)) (xs := ([1000, 64, 2047, 536870911, 16, 20, 4000, 16, 16, 16, 300, 60, 20, 4, 6, 1000000, 100] : List Int)) 2 rfl (by decide) (by decide) ((RepAll.one (T := (tyInt .i64)) (x := 1000) rfl).append ((RepAll.one (T := (tyInt .i64)) (x := 64) rfl).append ((RepAll.one (T := (tyInt .i64)) (x := 2047) rfl).append ((RepAll.one (T := (tyInt .i64)) (x := 536870911) rfl).append ((RepAll.one (T := (tyInt .i64)) (x := 16) rfl).append ((RepAll.one (T := (tyInt .i64)) (x := 20) rfl).append ((RepAll.one (T := (tyInt .i64)) (x := 4000) rfl).append ((RepAll.one (T := (tyInt .i64)) (x := 16) rfl).append ((RepAll.one (T := (tyInt .i64)) (x := 16) rfl).append ((RepAll.one (T := (tyInt .i64)) (x := 16) rfl).append ((RepAll.one (T := (tyInt .i64)) (x := 300) rfl).append ((RepAll.one (T := (tyInt .i64)) (x := 60) rfl).append ((RepAll.one (T := (tyInt .i64)) (x := 20) rfl).append ((RepAll.one (T := (tyInt .i64)) (x := 4) rfl).append ((RepAll.one (T := (tyInt .i64)) (x := 6) rfl).append ((RepAll.one (T := (tyInt .i64)) (x := 1000000) rfl).append (RepAll.one (T := (tyInt .i64)) (x := 100) rfl))))))))))))))))); clear hM117
    obtain ⟨Z119, hle120, hM121, hs122⟩ := hM118.freeze 2 rfl
    replace hs28 := hs28.mono hle120
    replace hle0 := Fz.le.trans hle0 hle120
    have hM123 : Mem w.heap.size [] w Z [.row b113 [.int .i64 1000, .int .i64 64, .int .i64 2047, .int .i64 536870911, .int .i64 16, .int .i64 20, .int .i64 4000, .int .i64 16, .int .i64 16, .int .i64 16, .int .i64 300, .int .i64 60, .int .i64 20, .int .i64 4, .int .i64 6, .int .i64 1000000, .int .i64 100] 3, .row b102 [.int .i64 0, .int .i64 1, .int .i64 2, .int .i64 1, .int .i64 2, .int .i64 3, .int .i64 4, .int .i64 5, .int .i64 6, .int .i64 0, .int .i64 1, .int .i64 2, .int .i64 3, .int .i64 4, .int .i64 1, .int .i64 2, .int .i64 3, .int .i64 4, .int .i64 5] 3] Z119 wd116 := hM121; clear hM121
    have hM124 : Mem w.heap.size [] w Z [.own (tyInt .i64) 3 (some ⟨b113, 0, none⟩) 17 ([1000, 64, 2047, 536870911, 16, 20, 4000, 16, 16, 16, 300, 60, 20, 4, 6, 1000000, 100] : List Int), .row b102 [.int .i64 0, .int .i64 1, .int .i64 2, .int .i64 1, .int .i64 2, .int .i64 3, .int .i64 4, .int .i64 5, .int .i64 6, .int .i64 0, .int .i64 1, .int .i64 2, .int .i64 3, .int .i64 4, .int .i64 1, .int .i64 2, .int .i64 3, .int .i64 4, .int .i64 5] 3] Z119 wd116 := hM123.rowOwn (T := (tyInt .i64)) (xs := ([1000, 64, 2047, 536870911, 16, 20, 4000, 16, 16, 16, 300, 60, 20, 4, 6, 1000000, 100] : List Int)) 0 rfl (by decide) (by decide) ((RepAll.one (T := (tyInt .i64)) (x := 1000) rfl).append ((RepAll.one (T := (tyInt .i64)) (x := 64) rfl).append ((RepAll.one (T := (tyInt .i64)) (x := 2047) rfl).append ((RepAll.one (T := (tyInt .i64)) (x := 536870911) rfl).append ((RepAll.one (T := (tyInt .i64)) (x := 16) rfl).append ((RepAll.one (T := (tyInt .i64)) (x := 20) rfl).append ((RepAll.one (T := (tyInt .i64)) (x := 4000) rfl).append ((RepAll.one (T := (tyInt .i64)) (x := 16) rfl).append ((RepAll.one (T := (tyInt .i64)) (x := 16) rfl).append ((RepAll.one (T := (tyInt .i64)) (x := 16) rfl).append ((RepAll.one (T := (tyInt .i64)) (x := 300) rfl).append ((RepAll.one (T := (tyInt .i64)) (x := 60) rfl).append ((RepAll.one (T := (tyInt .i64)) (x := 20) rfl).append ((RepAll.one (T := (tyInt .i64)) (x := 4) rfl).append ((RepAll.one (T := (tyInt .i64)) (x := 6) rfl).append ((RepAll.one (T := (tyInt .i64)) (x := 1000000) rfl).append (RepAll.one (T := (tyInt .i64)) (x := 100) rfl))))))))))))))))); clear hM123
    obtain ⟨Z125, hle126, hM127, hs128⟩ := hM124.freeze 0 rfl
    replace hs28 := hs28.mono hle126
    replace hs122 := hs122.mono hle126
    replace hle0 := Fz.le.trans hle0 hle126
    have hM129 : Mem w.heap.size [] w Z [.row b102 [.int .i64 0, .int .i64 1, .int .i64 2, .int .i64 1, .int .i64 2, .int .i64 3, .int .i64 4, .int .i64 5, .int .i64 6, .int .i64 0, .int .i64 1, .int .i64 2, .int .i64 3, .int .i64 4, .int .i64 1, .int .i64 2, .int .i64 3, .int .i64 4, .int .i64 5] 3] Z125 wd116 := hM127; clear hM127
    refine cl hF115 7 #[.slice (some ⟨b93, 0, none⟩) ([1000, 64, 2047, 536870911, 16, 20, 4000, 16, 16, 16, 300, 60, 20, 4, 6, 1000000, 100] : List Int).length 17, .slice (some ⟨b113, 0, none⟩) ([1000, 64, 2047, 536870911, 16, 20, 4000, 16, 16, 16, 300, 60, 20, 4, 6, 1000000, 100] : List Int).length 17] (nog rfl _) rfl (by kernel_rfl) (by kernel_rfl) ?_
    refine (sequal_walk ([1000, 64, 2047, 536870911, 16, 20, 4000, 16, 16, 16, 300, 60, 20, 4, 6, 1000000, 100] : List Int) ([1000, 64, 2047, 536870911, 16, 20, 4000, 16, 16, 16, 300, 60, 20, 4, 6, 1000000, 100] : List Int) (some ⟨b93, 0, none⟩) 17 (some ⟨b113, 0, none⟩) 17 _ _ hs122 hs128 hM129.fz hp91).mono ?_; rintro _ wd131 ⟨r130, rfl, hp135, hb⟩; refine ⟨_, rfl, ?_⟩; intro a132 hF133; have hM134 := hM129.call hb; clear hb hM129 hF115
    refine st hF133 (.bool r130) (nog rfl _) rfl (by kernel_rfl) (p0 hF133 (by kernel_rfl)) ?_; intro a136 hF137; clear hF133
    have hF138 := hF137.atom (r130 == true) (by kernel_rfl); clear hF137
    refine gd hF138 (.slice (some ⟨b102, 0, none⟩) 19 19) (m := 0) (cj := []) (bj := r130) rfl rfl (by kernel_rfl) rfl (by kernel_rfl) (by kernel_rfl) (by kernel_rfl) (fun hg => pu hF138 (g := [0]) (by kernel_rfl) hg) ?_; intro a139 hF140; clear hF138
    rcases Bool.eq_false_or_eq_true (r130) with hb141 | hb141
    · -- true
      have hp142 := hp135.1 hb141; clear hp135
      have hF143 := hF140.reval (d := 23) (c := []) (v := .bool r130) (by kernel_rfl) (.bool true) (by rw [hb141]); clear hF140
      have hF144 := hF143.setc (d := 24) (c := [0]) (v := .slice (some ⟨b102, 0, none⟩) 19 19) (by kernel_rfl) (v' := .slice (some ⟨b102, 0, none⟩) 19 19) (by rw [hb141]; kernel_rfl); clear hF143
      refine sn hF144 hM134 (fun b => .slice (some ⟨b, 0, none⟩) 19 19) [.int .i64 0, .int .i64 1, .int .i64 2, .int .i64 1, .int .i64 2, .int .i64 3, .int .i64 4, .int .i64 5, .int .i64 6, .int .i64 0, .int .i64 1, .int .i64 2, .int .i64 3, .int .i64 4, .int .i64 1, .int .i64 2, .int .i64 3, .int .i64 4, .int .i64 5] 3 (by rw [wanted_of hF144 (b := true) rfl rfl (by kernel_rfl) (by kernel_rfl)]; rfl) rfl (by kernel_rfl) (by kernel_rfl) ?_; intro b145 a146 wd148 hF147 hM149; clear hF144 hM134
      have hM150 : Mem w.heap.size [] w Z [.row b145 [.int .i64 0, .int .i64 1, .int .i64 2, .int .i64 1, .int .i64 2, .int .i64 3, .int .i64 4, .int .i64 5, .int .i64 6, .int .i64 0, .int .i64 1, .int .i64 2, .int .i64 3, .int .i64 4, .int .i64 1, .int .i64 2, .int .i64 3, .int .i64 4, .int .i64 5] 3, .own (tyInt .i64) 3 (some ⟨b102, 0, none⟩) 19 ([0, 1, 2, 1, 2, 3, 4, 5, 6, 0, 1, 2, 3, 4, 1, 2, 3, 4, 5] : List Int)] Z125 wd148 := hM149.rowOwn (T := (tyInt .i64)) (xs := ([0, 1, 2, 1, 2, 3, 4, 5, 6, 0, 1, 2, 3, 4, 1, 2, 3, 4, 5] : List Int)) 1 rfl (by decide) (by decide) ((RepAll.one (T := (tyInt .i64)) (x := 0) rfl).append ((RepAll.one (T := (tyInt .i64)) (x := 1) rfl).append ((RepAll.one (T := (tyInt .i64)) (x := 2) rfl).append ((RepAll.one (T := (tyInt .i64)) (x := 1) rfl).append ((RepAll.one (T := (tyInt .i64)) (x := 2) rfl).append ((RepAll.one (T := (tyInt .i64)) (x := 3) rfl).append ((RepAll.one (T := (tyInt .i64)) (x := 4) rfl).append ((RepAll.one (T := (tyInt .i64)) (x := 5) rfl).append ((RepAll.one (T := (tyInt .i64)) (x := 6) rfl).append ((RepAll.one (T := (tyInt .i64)) (x := 0) rfl).append ((RepAll.one (T := (tyInt .i64)) (x := 1) rfl).append ((RepAll.one (T := (tyInt .i64)) (x := 2) rfl).append ((RepAll.one (T := (tyInt .i64)) (x := 3) rfl).append ((RepAll.one (T := (tyInt .i64)) (x := 4) rfl).append ((RepAll.one (T := (tyInt .i64)) (x := 1) rfl).append ((RepAll.one (T := (tyInt .i64)) (x := 2) rfl).append ((RepAll.one (T := (tyInt .i64)) (x := 3) rfl).append ((RepAll.one (T := (tyInt .i64)) (x := 4) rfl).append (RepAll.one (T := (tyInt .i64)) (x := 5) rfl))))))))))))))))))); clear hM149
      obtain ⟨Z151, hle152, hM153, hs154⟩ := hM150.freeze 1 rfl
      replace hs28 := hs28.mono hle152
      replace hs122 := hs122.mono hle152
      replace hs128 := hs128.mono hle152
      replace hle0 := Fz.le.trans hle0 hle152
      have hM155 : Mem w.heap.size [] w Z [.row b145 [.int .i64 0, .int .i64 1, .int .i64 2, .int .i64 1, .int .i64 2, .int .i64 3, .int .i64 4, .int .i64 5, .int .i64 6, .int .i64 0, .int .i64 1, .int .i64 2, .int .i64 3, .int .i64 4, .int .i64 1, .int .i64 2, .int .i64 3, .int .i64 4, .int .i64 5] 3] Z151 wd148 := hM153; clear hM153
      have hM156 : Mem w.heap.size [] w Z [.own (tyInt .i64) 3 (some ⟨b145, 0, none⟩) 19 ([0, 1, 2, 1, 2, 3, 4, 5, 6, 0, 1, 2, 3, 4, 1, 2, 3, 4, 5] : List Int)] Z151 wd148 := hM155.rowOwn (T := (tyInt .i64)) (xs := ([0, 1, 2, 1, 2, 3, 4, 5, 6, 0, 1, 2, 3, 4, 1, 2, 3, 4, 5] : List Int)) 0 rfl (by decide) (by decide) ((RepAll.one (T := (tyInt .i64)) (x := 0) rfl).append ((RepAll.one (T := (tyInt .i64)) (x := 1) rfl).append ((RepAll.one (T := (tyInt .i64)) (x := 2) rfl).append ((RepAll.one (T := (tyInt .i64)) (x := 1) rfl).append ((RepAll.one (T := (tyInt .i64)) (x := 2) rfl).append ((RepAll.one (T := (tyInt .i64)) (x := 3) rfl).append ((RepAll.one (T := (tyInt .i64)) (x := 4) rfl).append ((RepAll.one (T := (tyInt .i64)) (x := 5) rfl).append ((RepAll.one (T := (tyInt .i64)) (x := 6) rfl).append ((RepAll.one (T := (tyInt .i64)) (x := 0) rfl).append ((RepAll.one (T := (tyInt .i64)) (x := 1) rfl).append ((RepAll.one (T := (tyInt .i64)) (x := 2) rfl).append ((RepAll.one (T := (tyInt .i64)) (x := 3) rfl).append ((RepAll.one (T := (tyInt .i64)) (x := 4) rfl).append ((RepAll.one (T := (tyInt .i64)) (x := 1) rfl).append ((RepAll.one (T := (tyInt .i64)) (x := 2) rfl).append ((RepAll.one (T := (tyInt .i64)) (x := 3) rfl).append ((RepAll.one (T := (tyInt .i64)) (x := 4) rfl).append (RepAll.one (T := (tyInt .i64)) (x := 5) rfl))))))))))))))))))); clear hM155
      obtain ⟨Z157, hle158, hM159, hs160⟩ := hM156.freeze 0 rfl
      replace hs28 := hs28.mono hle158
      replace hs122 := hs122.mono hle158
      replace hs128 := hs128.mono hle158
      replace hs154 := hs154.mono hle158
      replace hle0 := Fz.le.trans hle0 hle158
      have hM161 : Mem w.heap.size [] w Z [] Z157 wd148 := hM159; clear hM159
      refine cl hF147 7 #[.slice (some ⟨b102, 0, none⟩) ([0, 1, 2, 1, 2, 3, 4, 5, 6, 0, 1, 2, 3, 4, 1, 2, 3, 4, 5] : List Int).length 19, .slice (some ⟨b145, 0, none⟩) ([0, 1, 2, 1, 2, 3, 4, 5, 6, 0, 1, 2, 3, 4, 1, 2, 3, 4, 5] : List Int).length 19] (by rw [wanted_of hF147 (b := true) rfl rfl (by kernel_rfl) (by kernel_rfl)]; rfl) rfl (by kernel_rfl) (by kernel_rfl) ?_
      refine (sequal_walk ([0, 1, 2, 1, 2, 3, 4, 5, 6, 0, 1, 2, 3, 4, 1, 2, 3, 4, 5] : List Int) ([0, 1, 2, 1, 2, 3, 4, 5, 6, 0, 1, 2, 3, 4, 1, 2, 3, 4, 5] : List Int) (some ⟨b102, 0, none⟩) 19 (some ⟨b145, 0, none⟩) 19 _ _ hs154 hs160 hM161.fz hp142).mono ?_; rintro _ wd163 ⟨r162, rfl, hp167, hb⟩; refine ⟨_, rfl, ?_⟩; intro a164 hF165; have hM166 := hM161.call hb; clear hb hM161 hF147
      refine st hF165 (.bool r162) (nog rfl _) rfl (by kernel_rfl) (p0 hF165 (by kernel_rfl)) ?_; intro a168 hF169; clear hF165
      refine st hF169 (.bool r162) (nog rfl _) rfl (by kernel_rfl) (p0 hF169 (by kernel_rfl)) ?_; intro a170 hF171; clear hF169
      have hM172 : Mem w.heap.size [] w Z [] Z157 wd163 := hM166; clear hM166
      refine nlT ?_
      refine wp_ret ?_
      refine rt (fn := Try.f3) (v := .bool r162) hF171 (re1 hF171 (fn := Try.f3) rfl (by kernel_rfl)) ?_
      exact ⟨r162, rfl, hp167, hM172.below⟩
    · -- false
      have hp173 := hp135.2 hb141; clear hp135
      have hF174 := hF140.reval (d := 23) (c := []) (v := .bool r130) (by kernel_rfl) (.bool false) (by rw [hb141]); clear hF140
      have hF175 := hF174.setc (d := 24) (c := [0]) (v := .slice (some ⟨b102, 0, none⟩) 19 19) (by kernel_rfl) (v' := undef) (by rw [hb141]; kernel_rfl); clear hF174
      refine sk hF175 (b := false) rfl rfl (by kernel_rfl) (by kernel_rfl) rfl rfl (by kernel_rfl) ?_; intro a176 hF177; clear hF175
      refine sk hF177 (b := false) rfl rfl (by kernel_rfl) (by kernel_rfl) rfl rfl (by kernel_rfl) ?_; intro a178 hF179; clear hF177
      refine st hF179 (.bool false) (nog rfl _) rfl (by kernel_rfl) (p0 hF179 (by kernel_rfl)) ?_; intro a180 hF181; clear hF179
      refine st hF181 (.bool false) (nog rfl _) rfl (by kernel_rfl) (p0 hF181 (by kernel_rfl)) ?_; intro a182 hF183; clear hF181
      have hM184 : Mem w.heap.size [] w Z [.row b102 [.int .i64 0, .int .i64 1, .int .i64 2, .int .i64 1, .int .i64 2, .int .i64 3, .int .i64 4, .int .i64 5, .int .i64 6, .int .i64 0, .int .i64 1, .int .i64 2, .int .i64 3, .int .i64 4, .int .i64 1, .int .i64 2, .int .i64 3, .int .i64 4, .int .i64 5] 3] Z125 wd131 := hM134; clear hM134
      refine nlT ?_
      refine wp_ret ?_
      refine rt (fn := Try.f3) (v := .bool false) hF183 (re1 hF183 (fn := Try.f3) rfl (by kernel_rfl)) ?_
      exact ⟨false, rfl, hp173, hM184.below⟩

set_option maxRecDepth 100000 in
theorem hcheck_walk (u0 : Health)  (Z : Fz) (w : World)  (hZ : Z.on w) {K : Int → Prop} (hp : hcheck_vc u0 K) : Calls Try.prog 12 #[.agg #[.int .i64 u0.Sent, .int .i64 u0.Got, .int .i64 u0.Rest]] w fun e w' => ∃ r : Int, e = .returned (.int .i64 r) ∧ K r ∧ Below w.heap.size w w' := by
  refine enter0 Try.func12 rfl rfl (by kernel_rfl) ?_; intro a0 hF0; have hM0 := Mem.start w Z hZ; have hle0 := Fz.le.refl Z
  have hF1 : Fr 41 [] [⟨0, [], .agg #[.int .i64 u0.Sent, .int .i64 u0.Got, .int .i64 u0.Rest]⟩] a0 := hF0.region (by kernel_rfl) (by kernel_rfl); clear hF0
  refine sqR ?_
  refine sn hF1 hM0 (fun b => .pointer (some ⟨b, 0, none⟩)) [.int .i64 u0.Sent, .int .i64 u0.Got, .int .i64 u0.Rest] 28 (nog rfl _) rfl (by kernel_rfl) (by kernel_rfl) ?_; intro b2 a3 wd5 hF4 hM6; clear hF1 hM0
  refine st hF4 (.int .i64 0) (nog rfl _) rfl (by kernel_rfl) (p0 hF4 (by kernel_rfl)) ?_; intro a7 hF8; clear hF4
  have hM9 : Mem w.heap.size [] w Z [.row b2 [.int .i64 u0.Sent, .int .i64 u0.Got, .int .i64 u0.Rest] 28] Z wd5 := hM6; clear hM6
  refine nlT ?_
  refine wp_seq ?_
  have hF10 : Fr 41 [] [⟨1, [], .pointer (some ⟨b2, 0, none⟩)⟩] a7 := hF8.region (by kernel_rfl) (by kernel_rfl); clear hF8
  refine sqR ?_
  refine st hF10 (.pointer (some ⟨b2, 0, none⟩)) (nog rfl _) rfl (by kernel_rfl) (p0 hF10 (by kernel_rfl)) ?_; intro a11 hF12; clear hF10
  refine st hF12 (.int .i64 u0.Sent) (nog rfl _) rfl (by kernel_rfl) (ld hF12 hM9 0 (g := []) (b := b2) (off := 0) (cs := [.int .i64 u0.Sent, .int .i64 u0.Got, .int .i64 u0.Rest]) (ty := 28) rfl (by kernel_rfl) (by kernel_rfl) (by kernel_rfl) (by kernel_rfl) rfl) ?_; intro a13 hF14; clear hF12
  refine st hF14 (.bool (decide (u0.Sent < 0))) (nog rfl _) rfl (by kernel_rfl) (p0 hF14 (by kernel_rfl)) ?_; intro a15 hF16; clear hF14
  refine st hF16 (.bool (decide (u0.Sent < 0))) (nog rfl _) rfl (by kernel_rfl) (p0 hF16 (by kernel_rfl)) ?_; intro a17 hF18; clear hF16
  have hF19 := hF18.atom ((decide (u0.Sent < 0)) == false) (by kernel_rfl); clear hF18
  refine gd hF19 (.pointer (some ⟨b2, 0, none⟩)) (m := 0) (cj := []) (bj := decide (u0.Sent < 0)) rfl rfl (by kernel_rfl) rfl (by kernel_rfl) (by kernel_rfl) (by kernel_rfl) (fun hg => pu hF19 (g := [0]) (by kernel_rfl) hg) ?_; intro a20 hF21; clear hF19
  refine gd hF21 (.int .i64 u0.Sent) (m := 0) (cj := []) (bj := decide (u0.Sent < 0)) rfl rfl (by kernel_rfl) rfl (by kernel_rfl) (by kernel_rfl) (by kernel_rfl) (fun hg => ld hF21 hM9 0 (g := [0]) (b := b2) (off := 0) (cs := [.int .i64 u0.Sent, .int .i64 u0.Got, .int .i64 u0.Rest]) (ty := 28) rfl (by kernel_rfl) (by kernel_rfl) (by kernel_rfl) (by kernel_rfl) hg) ?_; intro a22 hF23; clear hF21
  refine gd hF23 (.bool (decide (u0.Sent > 256))) (m := 0) (cj := []) (bj := decide (u0.Sent < 0)) rfl rfl (by kernel_rfl) rfl (by kernel_rfl) (by kernel_rfl) (by kernel_rfl) (fun hg => pu hF23 (g := [0]) (by kernel_rfl) hg) ?_; intro a24 hF25; clear hF23
  refine st hF25 (.bool ((decide (u0.Sent < 0)) || (decide (u0.Sent > 256)))) (nog rfl _) rfl (by kernel_rfl) (pk_or hF25 (g := []) (m := 0) (b := decide (u0.Sent < 0)) (v := decide (u0.Sent > 256)) rfl (by kernel_rfl) (by kernel_rfl) (by kernel_rfl) rfl) ?_; intro a26 hF27; clear hF25
  refine st hF27 (.bool ((decide (u0.Sent < 0)) || (decide (u0.Sent > 256)))) (nog rfl _) rfl (by kernel_rfl) (p0 hF27 (by kernel_rfl)) ?_; intro a28 hF29; clear hF27
  have hF30 := hF29.atom (((decide (u0.Sent < 0)) || (decide (u0.Sent > 256))) == false) (by kernel_rfl); clear hF29
  refine gd hF30 (.pointer (some ⟨b2, 1, none⟩)) (m := 1) (cj := []) (bj := (decide (u0.Sent < 0)) || (decide (u0.Sent > 256))) rfl rfl (by kernel_rfl) rfl (by kernel_rfl) (by kernel_rfl) (by kernel_rfl) (fun hg => pu hF30 (g := [1]) (by kernel_rfl) hg) ?_; intro a31 hF32; clear hF30
  refine gd hF32 (.int .i64 u0.Got) (m := 1) (cj := []) (bj := (decide (u0.Sent < 0)) || (decide (u0.Sent > 256))) rfl rfl (by kernel_rfl) rfl (by kernel_rfl) (by kernel_rfl) (by kernel_rfl) (fun hg => ld hF32 hM9 0 (g := [1]) (b := b2) (off := 1) (cs := [.int .i64 u0.Sent, .int .i64 u0.Got, .int .i64 u0.Rest]) (ty := 28) rfl (by kernel_rfl) (by kernel_rfl) (by kernel_rfl) (by kernel_rfl) hg) ?_; intro a33 hF34; clear hF32
  refine gd hF34 (.bool (decide (u0.Got < 0))) (m := 1) (cj := []) (bj := (decide (u0.Sent < 0)) || (decide (u0.Sent > 256))) rfl rfl (by kernel_rfl) rfl (by kernel_rfl) (by kernel_rfl) (by kernel_rfl) (fun hg => pu hF34 (g := [1]) (by kernel_rfl) hg) ?_; intro a35 hF36; clear hF34
  refine st hF36 (.bool (((decide (u0.Sent < 0)) || (decide (u0.Sent > 256))) || (decide (u0.Got < 0)))) (nog rfl _) rfl (by kernel_rfl) (pk_or hF36 (g := []) (m := 1) (b := (decide (u0.Sent < 0)) || (decide (u0.Sent > 256))) (v := decide (u0.Got < 0)) rfl (by kernel_rfl) (by kernel_rfl) (by kernel_rfl) rfl) ?_; intro a37 hF38; clear hF36
  refine st hF38 (.bool (((decide (u0.Sent < 0)) || (decide (u0.Sent > 256))) || (decide (u0.Got < 0)))) (nog rfl _) rfl (by kernel_rfl) (p0 hF38 (by kernel_rfl)) ?_; intro a39 hF40; clear hF38
  have hF41 := hF40.atom ((((decide (u0.Sent < 0)) || (decide (u0.Sent > 256))) || (decide (u0.Got < 0))) == false) (by kernel_rfl); clear hF40
  refine gd hF41 (.pointer (some ⟨b2, 1, none⟩)) (m := 2) (cj := []) (bj := ((decide (u0.Sent < 0)) || (decide (u0.Sent > 256))) || (decide (u0.Got < 0))) rfl rfl (by kernel_rfl) rfl (by kernel_rfl) (by kernel_rfl) (by kernel_rfl) (fun hg => pu hF41 (g := [2]) (by kernel_rfl) hg) ?_; intro a42 hF43; clear hF41
  refine gd hF43 (.int .i64 u0.Got) (m := 2) (cj := []) (bj := ((decide (u0.Sent < 0)) || (decide (u0.Sent > 256))) || (decide (u0.Got < 0))) rfl rfl (by kernel_rfl) rfl (by kernel_rfl) (by kernel_rfl) (by kernel_rfl) (fun hg => ld hF43 hM9 0 (g := [2]) (b := b2) (off := 1) (cs := [.int .i64 u0.Sent, .int .i64 u0.Got, .int .i64 u0.Rest]) (ty := 28) rfl (by kernel_rfl) (by kernel_rfl) (by kernel_rfl) (by kernel_rfl) hg) ?_; intro a44 hF45; clear hF43
  refine gd hF45 (.bool (decide (u0.Got > 255))) (m := 2) (cj := []) (bj := ((decide (u0.Sent < 0)) || (decide (u0.Sent > 256))) || (decide (u0.Got < 0))) rfl rfl (by kernel_rfl) rfl (by kernel_rfl) (by kernel_rfl) (by kernel_rfl) (fun hg => pu hF45 (g := [2]) (by kernel_rfl) hg) ?_; intro a46 hF47; clear hF45
  refine st hF47 (.bool ((((decide (u0.Sent < 0)) || (decide (u0.Sent > 256))) || (decide (u0.Got < 0))) || (decide (u0.Got > 255)))) (nog rfl _) rfl (by kernel_rfl) (pk_or hF47 (g := []) (m := 2) (b := ((decide (u0.Sent < 0)) || (decide (u0.Sent > 256))) || (decide (u0.Got < 0))) (v := decide (u0.Got > 255)) rfl (by kernel_rfl) (by kernel_rfl) (by kernel_rfl) rfl) ?_; intro a48 hF49; clear hF47
  refine st hF49 (.bool ((((decide (u0.Sent < 0)) || (decide (u0.Sent > 256))) || (decide (u0.Got < 0))) || (decide (u0.Got > 255)))) (nog rfl _) rfl (by kernel_rfl) (p0 hF49 (by kernel_rfl)) ?_; intro a50 hF51; clear hF49
  have hF52 := hF51.atom (((((decide (u0.Sent < 0)) || (decide (u0.Sent > 256))) || (decide (u0.Got < 0))) || (decide (u0.Got > 255))) == false) (by kernel_rfl); clear hF51
  refine gd hF52 (.pointer (some ⟨b2, 2, none⟩)) (m := 3) (cj := []) (bj := (((decide (u0.Sent < 0)) || (decide (u0.Sent > 256))) || (decide (u0.Got < 0))) || (decide (u0.Got > 255))) rfl rfl (by kernel_rfl) rfl (by kernel_rfl) (by kernel_rfl) (by kernel_rfl) (fun hg => pu hF52 (g := [3]) (by kernel_rfl) hg) ?_; intro a53 hF54; clear hF52
  refine gd hF54 (.int .i64 u0.Rest) (m := 3) (cj := []) (bj := (((decide (u0.Sent < 0)) || (decide (u0.Sent > 256))) || (decide (u0.Got < 0))) || (decide (u0.Got > 255))) rfl rfl (by kernel_rfl) rfl (by kernel_rfl) (by kernel_rfl) (by kernel_rfl) (fun hg => ld hF54 hM9 0 (g := [3]) (b := b2) (off := 2) (cs := [.int .i64 u0.Sent, .int .i64 u0.Got, .int .i64 u0.Rest]) (ty := 28) rfl (by kernel_rfl) (by kernel_rfl) (by kernel_rfl) (by kernel_rfl) hg) ?_; intro a55 hF56; clear hF54
  refine gd hF56 (.bool (decide (u0.Rest < 0))) (m := 3) (cj := []) (bj := (((decide (u0.Sent < 0)) || (decide (u0.Sent > 256))) || (decide (u0.Got < 0))) || (decide (u0.Got > 255))) rfl rfl (by kernel_rfl) rfl (by kernel_rfl) (by kernel_rfl) (by kernel_rfl) (fun hg => pu hF56 (g := [3]) (by kernel_rfl) hg) ?_; intro a57 hF58; clear hF56
  refine st hF58 (.bool (((((decide (u0.Sent < 0)) || (decide (u0.Sent > 256))) || (decide (u0.Got < 0))) || (decide (u0.Got > 255))) || (decide (u0.Rest < 0)))) (nog rfl _) rfl (by kernel_rfl) (pk_or hF58 (g := []) (m := 3) (b := (((decide (u0.Sent < 0)) || (decide (u0.Sent > 256))) || (decide (u0.Got < 0))) || (decide (u0.Got > 255))) (v := decide (u0.Rest < 0)) rfl (by kernel_rfl) (by kernel_rfl) (by kernel_rfl) rfl) ?_; intro a59 hF60; clear hF58
  refine st hF60 (.bool (((((decide (u0.Sent < 0)) || (decide (u0.Sent > 256))) || (decide (u0.Got < 0))) || (decide (u0.Got > 255))) || (decide (u0.Rest < 0)))) (nog rfl _) rfl (by kernel_rfl) (p0 hF60 (by kernel_rfl)) ?_; intro a61 hF62; clear hF60
  have hF63 := hF62.atom ((((((decide (u0.Sent < 0)) || (decide (u0.Sent > 256))) || (decide (u0.Got < 0))) || (decide (u0.Got > 255))) || (decide (u0.Rest < 0))) == false) (by kernel_rfl); clear hF62
  refine gd hF63 (.pointer (some ⟨b2, 2, none⟩)) (m := 4) (cj := []) (bj := ((((decide (u0.Sent < 0)) || (decide (u0.Sent > 256))) || (decide (u0.Got < 0))) || (decide (u0.Got > 255))) || (decide (u0.Rest < 0))) rfl rfl (by kernel_rfl) rfl (by kernel_rfl) (by kernel_rfl) (by kernel_rfl) (fun hg => pu hF63 (g := [4]) (by kernel_rfl) hg) ?_; intro a64 hF65; clear hF63
  refine gd hF65 (.int .i64 u0.Rest) (m := 4) (cj := []) (bj := ((((decide (u0.Sent < 0)) || (decide (u0.Sent > 256))) || (decide (u0.Got < 0))) || (decide (u0.Got > 255))) || (decide (u0.Rest < 0))) rfl rfl (by kernel_rfl) rfl (by kernel_rfl) (by kernel_rfl) (by kernel_rfl) (fun hg => ld hF65 hM9 0 (g := [4]) (b := b2) (off := 2) (cs := [.int .i64 u0.Sent, .int .i64 u0.Got, .int .i64 u0.Rest]) (ty := 28) rfl (by kernel_rfl) (by kernel_rfl) (by kernel_rfl) (by kernel_rfl) hg) ?_; intro a66 hF67; clear hF65
  refine gd hF67 (.bool (decide (u0.Rest > 127))) (m := 4) (cj := []) (bj := ((((decide (u0.Sent < 0)) || (decide (u0.Sent > 256))) || (decide (u0.Got < 0))) || (decide (u0.Got > 255))) || (decide (u0.Rest < 0))) rfl rfl (by kernel_rfl) rfl (by kernel_rfl) (by kernel_rfl) (by kernel_rfl) (fun hg => pu hF67 (g := [4]) (by kernel_rfl) hg) ?_; intro a68 hF69; clear hF67
  refine st hF69 (.bool ((((((decide (u0.Sent < 0)) || (decide (u0.Sent > 256))) || (decide (u0.Got < 0))) || (decide (u0.Got > 255))) || (decide (u0.Rest < 0))) || (decide (u0.Rest > 127)))) (nog rfl _) rfl (by kernel_rfl) (pk_or hF69 (g := []) (m := 4) (b := ((((decide (u0.Sent < 0)) || (decide (u0.Sent > 256))) || (decide (u0.Got < 0))) || (decide (u0.Got > 255))) || (decide (u0.Rest < 0))) (v := decide (u0.Rest > 127)) rfl (by kernel_rfl) (by kernel_rfl) (by kernel_rfl) rfl) ?_; intro a70 hF71; clear hF69
  refine st hF71 (.bool ((((((decide (u0.Sent < 0)) || (decide (u0.Sent > 256))) || (decide (u0.Got < 0))) || (decide (u0.Got > 255))) || (decide (u0.Rest < 0))) || (decide (u0.Rest > 127)))) (nog rfl _) rfl (by kernel_rfl) (p0 hF71 (by kernel_rfl)) ?_; intro a72 hF73; clear hF71
  have hF74 := hF73.atom (((((((decide (u0.Sent < 0)) || (decide (u0.Sent > 256))) || (decide (u0.Got < 0))) || (decide (u0.Got > 255))) || (decide (u0.Rest < 0))) || (decide (u0.Rest > 127))) == false) (by kernel_rfl); clear hF73
  refine gd hF74 (.pointer (some ⟨b2, 2, none⟩)) (m := 5) (cj := []) (bj := (((((decide (u0.Sent < 0)) || (decide (u0.Sent > 256))) || (decide (u0.Got < 0))) || (decide (u0.Got > 255))) || (decide (u0.Rest < 0))) || (decide (u0.Rest > 127))) rfl rfl (by kernel_rfl) rfl (by kernel_rfl) (by kernel_rfl) (by kernel_rfl) (fun hg => pu hF74 (g := [5]) (by kernel_rfl) hg) ?_; intro a75 hF76; clear hF74
  refine gd hF76 (.int .i64 u0.Rest) (m := 5) (cj := []) (bj := (((((decide (u0.Sent < 0)) || (decide (u0.Sent > 256))) || (decide (u0.Got < 0))) || (decide (u0.Got > 255))) || (decide (u0.Rest < 0))) || (decide (u0.Rest > 127))) rfl rfl (by kernel_rfl) rfl (by kernel_rfl) (by kernel_rfl) (by kernel_rfl) (fun hg => ld hF76 hM9 0 (g := [5]) (b := b2) (off := 2) (cs := [.int .i64 u0.Sent, .int .i64 u0.Got, .int .i64 u0.Rest]) (ty := 28) rfl (by kernel_rfl) (by kernel_rfl) (by kernel_rfl) (by kernel_rfl) hg) ?_; intro a77 hF78; clear hF76
  refine gd hF78 (.bool (decide (u0.Rest > 0))) (m := 5) (cj := []) (bj := (((((decide (u0.Sent < 0)) || (decide (u0.Sent > 256))) || (decide (u0.Got < 0))) || (decide (u0.Got > 255))) || (decide (u0.Rest < 0))) || (decide (u0.Rest > 127))) rfl rfl (by kernel_rfl) rfl (by kernel_rfl) (by kernel_rfl) (by kernel_rfl) (fun hg => pu hF78 (g := [5]) (by kernel_rfl) hg) ?_; intro a79 hF80; clear hF78
  refine gd hF80 (.bool (decide (u0.Rest > 0))) (m := 5) (cj := []) (bj := (((((decide (u0.Sent < 0)) || (decide (u0.Sent > 256))) || (decide (u0.Got < 0))) || (decide (u0.Got > 255))) || (decide (u0.Rest < 0))) || (decide (u0.Rest > 127))) rfl rfl (by kernel_rfl) rfl (by kernel_rfl) (by kernel_rfl) (by kernel_rfl) (fun hg => pu hF80 (g := [5]) (by kernel_rfl) hg) ?_; intro a81 hF82; clear hF80
  have hF83 := hF82.atom ((decide (u0.Rest > 0)) == true) (by kernel_rfl); clear hF82
  refine gd hF83 (.pointer (some ⟨b2, 0, none⟩)) (m := 6) (cj := [5]) (bj := decide (u0.Rest > 0)) rfl rfl (by kernel_rfl) rfl (by kernel_rfl) (by kernel_rfl) (by kernel_rfl) (fun hg => pu hF83 (g := [6, 5]) (by kernel_rfl) hg) ?_; intro a84 hF85; clear hF83
  refine gd hF85 (.int .i64 u0.Sent) (m := 6) (cj := [5]) (bj := decide (u0.Rest > 0)) rfl rfl (by kernel_rfl) rfl (by kernel_rfl) (by kernel_rfl) (by kernel_rfl) (fun hg => ld hF85 hM9 0 (g := [6, 5]) (b := b2) (off := 0) (cs := [.int .i64 u0.Sent, .int .i64 u0.Got, .int .i64 u0.Rest]) (ty := 28) rfl (by kernel_rfl) (by kernel_rfl) (by kernel_rfl) (by kernel_rfl) hg) ?_; intro a86 hF87; clear hF85
  refine gd hF87 (.bool (decide (u0.Sent < 256))) (m := 6) (cj := [5]) (bj := decide (u0.Rest > 0)) rfl rfl (by kernel_rfl) rfl (by kernel_rfl) (by kernel_rfl) (by kernel_rfl) (fun hg => pu hF87 (g := [6, 5]) (by kernel_rfl) hg) ?_; intro a88 hF89; clear hF87
  refine gd hF89 (.bool ((decide (u0.Rest > 0)) && (decide (u0.Sent < 256)))) (m := 5) (cj := []) (bj := (((((decide (u0.Sent < 0)) || (decide (u0.Sent > 256))) || (decide (u0.Got < 0))) || (decide (u0.Got > 255))) || (decide (u0.Rest < 0))) || (decide (u0.Rest > 127))) rfl rfl (by kernel_rfl) rfl (by kernel_rfl) (by kernel_rfl) (by kernel_rfl) (fun hg => pk_and hF89 (g := [5]) (m := 6) (b := decide (u0.Rest > 0)) (v := decide (u0.Sent < 256)) rfl (by kernel_rfl) (by kernel_rfl) (by kernel_rfl) hg) ?_; intro a90 hF91; clear hF89
  refine st hF91 (.bool (((((((decide (u0.Sent < 0)) || (decide (u0.Sent > 256))) || (decide (u0.Got < 0))) || (decide (u0.Got > 255))) || (decide (u0.Rest < 0))) || (decide (u0.Rest > 127))) || ((decide (u0.Rest > 0)) && (decide (u0.Sent < 256))))) (nog rfl _) rfl (by kernel_rfl) (pk_or hF91 (g := []) (m := 5) (b := (((((decide (u0.Sent < 0)) || (decide (u0.Sent > 256))) || (decide (u0.Got < 0))) || (decide (u0.Got > 255))) || (decide (u0.Rest < 0))) || (decide (u0.Rest > 127))) (v := (decide (u0.Rest > 0)) && (decide (u0.Sent < 256))) rfl (by kernel_rfl) (by kernel_rfl) (by kernel_rfl) rfl) ?_; intro a92 hF93; clear hF91
  have hM94 : Mem w.heap.size [] w Z [.row b2 [.int .i64 u0.Sent, .int .i64 u0.Got, .int .i64 u0.Rest] 28] Z wd5 := hM9; clear hM9
  refine nlT ?_
  refine cd hF93 (t := ((((((decide (u0.Sent < 0)) || (decide (u0.Sent > 256))) || (decide (u0.Got < 0))) || (decide (u0.Got > 255))) || (decide (u0.Rest < 0))) || (decide (u0.Rest > 127))) || ((decide (u0.Rest > 0)) && (decide (u0.Sent < 256)))) (by kernel_rfl) (fun hb95 => ?_) (fun hb95 => ?_)
  · -- yes
    have hp96 := hp.1 hb95; clear hp
    have hF97 : Fr 41 [] [] a92 := hF93.region (by kernel_rfl) (by kernel_rfl); clear hF93
    refine sqR ?_
    refine st hF97 (.int .i64 3) (nog rfl _) rfl (by kernel_rfl) (p0 hF97 (by kernel_rfl)) ?_; intro a98 hF99; clear hF97
    have hM100 : Mem w.heap.size [] w Z [.row b2 [.int .i64 u0.Sent, .int .i64 u0.Got, .int .i64 u0.Rest] 28] Z wd5 := hM94; clear hM94
    refine nlT ?_
    refine wp_ret ?_
    refine thr ?_
    refine rt (fn := Try.f12) (v := .int .i64 3) hF99 (re1 hF99 (fn := Try.f12) rfl (by kernel_rfl)) ?_
    exact ⟨3, rfl, hp96, hM100.below⟩
  · -- no
    have hp101 := hp.2 hb95; clear hp
    refine wp_skip ?_
    refine thn ?_
    have hF102 : Fr 41 [] [] a92 := hF93.region (by kernel_rfl) (by kernel_rfl); clear hF93
    refine sqR ?_
    refine st hF102 (.int .i64 0) (nog rfl _) rfl (by kernel_rfl) (p0 hF102 (by kernel_rfl)) ?_; intro a103 hF104; clear hF102
    have hM105 : Mem w.heap.size [] w Z [.row b2 [.int .i64 u0.Sent, .int .i64 u0.Got, .int .i64 u0.Rest] 28] Z wd5 := hM94; clear hM94
    refine nlT ?_
    refine wp_ret ?_
    refine rt (fn := Try.f12) (v := .int .i64 0) hF104 (re1 hF104 (fn := Try.f12) rfl (by kernel_rfl)) ?_
    exact ⟨0, rfl, hp101, hM105.below⟩
theorem hcheck_fun (u0 : Health)  (Z : Fz) (w : World)  (hZ : Z.on w) : Calls Try.prog 12 #[.agg #[.int .i64 u0.Sent, .int .i64 u0.Got, .int .i64 u0.Rest]] w fun e w' => e = .returned (.int .i64 (hcheck u0)) ∧ Below w.heap.size w w' :=
  (hcheck_walk u0  Z w  hZ (hcheck_ok u0)).mono fun _ _ ⟨r, he, hk, hb⟩ => ⟨by subst hk; exact he, hb⟩

set_option maxRecDepth 100000 in
theorem hstate_walk (u0 : Health)  (Z : Fz) (w : World)  (hZ : Z.on w) {K : Int → Prop} (hp : hstate_vc u0 K) : Calls Try.prog 18 #[.agg #[.int .i64 u0.Sent, .int .i64 u0.Got, .int .i64 u0.Rest]] w fun e w' => ∃ r : Int, e = .returned (.int .i64 r) ∧ K r ∧ Below w.heap.size w w' := by
  refine enter0 Try.func18 rfl rfl (by kernel_rfl) ?_; intro a0 hF0; have hM0 := Mem.start w Z hZ; have hle0 := Fz.le.refl Z
  have hF1 : Fr 16 [] [⟨0, [], .agg #[.int .i64 u0.Sent, .int .i64 u0.Got, .int .i64 u0.Rest]⟩] a0 := hF0.region (by kernel_rfl) (by kernel_rfl); clear hF0
  refine sqR ?_
  refine sn hF1 hM0 (fun b => .pointer (some ⟨b, 0, none⟩)) [.int .i64 u0.Sent, .int .i64 u0.Got, .int .i64 u0.Rest] 28 (nog rfl _) rfl (by kernel_rfl) (by kernel_rfl) ?_; intro b2 a3 wd5 hF4 hM6; clear hF1 hM0
  refine st hF4 (.int .i64 0) (nog rfl _) rfl (by kernel_rfl) (p0 hF4 (by kernel_rfl)) ?_; intro a7 hF8; clear hF4
  have hM9 : Mem w.heap.size [] w Z [.row b2 [.int .i64 u0.Sent, .int .i64 u0.Got, .int .i64 u0.Rest] 28] Z wd5 := hM6; clear hM6
  refine nlT ?_
  refine wp_seq ?_
  refine wp_block ?_
  have hF10 : Fr 16 [] [⟨1, [], .pointer (some ⟨b2, 0, none⟩)⟩] a7 := hF8.region (by kernel_rfl) (by kernel_rfl); clear hF8
  refine sqR ?_
  refine st hF10 (.pointer (some ⟨b2, 0, none⟩)) (nog rfl _) rfl (by kernel_rfl) (p0 hF10 (by kernel_rfl)) ?_; intro a11 hF12; clear hF10
  refine st hF12 (.int .i64 u0.Sent) (nog rfl _) rfl (by kernel_rfl) (ld hF12 hM9 0 (g := []) (b := b2) (off := 0) (cs := [.int .i64 u0.Sent, .int .i64 u0.Got, .int .i64 u0.Rest]) (ty := 28) rfl (by kernel_rfl) (by kernel_rfl) (by kernel_rfl) (by kernel_rfl) rfl) ?_; intro a13 hF14; clear hF12
  refine st hF14 (.bool (decide (u0.Sent > 255))) (nog rfl _) rfl (by kernel_rfl) (p0 hF14 (by kernel_rfl)) ?_; intro a15 hF16; clear hF14
  refine st hF16 (.bool (decide (u0.Sent > 255))) (nog rfl _) rfl (by kernel_rfl) (p0 hF16 (by kernel_rfl)) ?_; intro a17 hF18; clear hF16
  have hM19 : Mem w.heap.size [] w Z [.row b2 [.int .i64 u0.Sent, .int .i64 u0.Got, .int .i64 u0.Rest] 28] Z wd5 := hM9; clear hM9
  refine nlT ?_
  refine cd hF18 (t := decide (u0.Sent > 255)) (by kernel_rfl) (fun hb20 => ?_) (fun hb20 => ?_)
  · -- yes
    have hp21 := hp.1 hb20; clear hp
    have hF22 : Fr 16 [] [] a17 := hF18.region (by kernel_rfl) (by kernel_rfl); clear hF18
    refine sqR ?_
    refine st hF22 (.int .i64 2) (nog rfl _) rfl (by kernel_rfl) (p0 hF22 (by kernel_rfl)) ?_; intro a23 hF24; clear hF22
    have hM25 : Mem w.heap.size [] w Z [.row b2 [.int .i64 u0.Sent, .int .i64 u0.Got, .int .i64 u0.Rest] 28] Z wd5 := hM19; clear hM19
    refine nlT ?_
    refine wp_ret ?_
    refine ibr ?_
    refine thr ?_
    refine rt (fn := Try.f18) (v := .int .i64 2) hF24 (re1 hF24 (fn := Try.f18) rfl (by kernel_rfl)) ?_
    exact ⟨2, rfl, hp21, hM25.below⟩
  · -- no
    have hp26 := hp.2 hb20; clear hp
    have hF27 : Fr 16 [] [⟨1, [], .pointer (some ⟨b2, 0, none⟩)⟩] a17 := hF18.region (by kernel_rfl) (by kernel_rfl); clear hF18
    refine sqR ?_
    refine st hF27 (.pointer (some ⟨b2, 0, none⟩)) (nog rfl _) rfl (by kernel_rfl) (p0 hF27 (by kernel_rfl)) ?_; intro a28 hF29; clear hF27
    refine st hF29 (.int .i64 u0.Sent) (nog rfl _) rfl (by kernel_rfl) (ld hF29 hM19 0 (g := []) (b := b2) (off := 0) (cs := [.int .i64 u0.Sent, .int .i64 u0.Got, .int .i64 u0.Rest]) (ty := 28) rfl (by kernel_rfl) (by kernel_rfl) (by kernel_rfl) (by kernel_rfl) rfl) ?_; intro a30 hF31; clear hF29
    refine st hF31 (.bool (decide (u0.Sent > 127))) (nog rfl _) rfl (by kernel_rfl) (p0 hF31 (by kernel_rfl)) ?_; intro a32 hF33; clear hF31
    refine st hF33 (.bool (decide (u0.Sent > 127))) (nog rfl _) rfl (by kernel_rfl) (p0 hF33 (by kernel_rfl)) ?_; intro a34 hF35; clear hF33
    have hF36 := hF35.atom ((decide (u0.Sent > 127)) == false) (by kernel_rfl); clear hF35
    refine gd hF36 (.pointer (some ⟨b2, 1, none⟩)) (m := 0) (cj := []) (bj := decide (u0.Sent > 127)) rfl rfl (by kernel_rfl) rfl (by kernel_rfl) (by kernel_rfl) (by kernel_rfl) (fun hg => pu hF36 (g := [0]) (by kernel_rfl) hg) ?_; intro a37 hF38; clear hF36
    refine gd hF38 (.int .i64 u0.Got) (m := 0) (cj := []) (bj := decide (u0.Sent > 127)) rfl rfl (by kernel_rfl) rfl (by kernel_rfl) (by kernel_rfl) (by kernel_rfl) (fun hg => ld hF38 hM19 0 (g := [0]) (b := b2) (off := 1) (cs := [.int .i64 u0.Sent, .int .i64 u0.Got, .int .i64 u0.Rest]) (ty := 28) rfl (by kernel_rfl) (by kernel_rfl) (by kernel_rfl) (by kernel_rfl) hg) ?_; intro a39 hF40; clear hF38
    refine gd hF40 (.bool (decide (u0.Got > 127))) (m := 0) (cj := []) (bj := decide (u0.Sent > 127)) rfl rfl (by kernel_rfl) rfl (by kernel_rfl) (by kernel_rfl) (by kernel_rfl) (fun hg => pu hF40 (g := [0]) (by kernel_rfl) hg) ?_; intro a41 hF42; clear hF40
    refine st hF42 (.bool ((decide (u0.Sent > 127)) || (decide (u0.Got > 127)))) (nog rfl _) rfl (by kernel_rfl) (pk_or hF42 (g := []) (m := 0) (b := decide (u0.Sent > 127)) (v := decide (u0.Got > 127)) rfl (by kernel_rfl) (by kernel_rfl) (by kernel_rfl) rfl) ?_; intro a43 hF44; clear hF42
    refine st hF44 (.bool ((decide (u0.Sent > 127)) || (decide (u0.Got > 127)))) (nog rfl _) rfl (by kernel_rfl) (p0 hF44 (by kernel_rfl)) ?_; intro a45 hF46; clear hF44
    have hM47 : Mem w.heap.size [] w Z [.row b2 [.int .i64 u0.Sent, .int .i64 u0.Got, .int .i64 u0.Rest] 28] Z wd5 := hM19; clear hM19
    refine nlT ?_
    refine cd hF46 (t := (decide (u0.Sent > 127)) || (decide (u0.Got > 127))) (by kernel_rfl) (fun hb48 => ?_) (fun hb48 => ?_)
    · -- yes
      have hp49 := hp26.1 hb48; clear hp26
      have hF50 : Fr 16 [] [] a45 := hF46.region (by kernel_rfl) (by kernel_rfl); clear hF46
      refine sqR ?_
      refine st hF50 (.int .i64 1) (nog rfl _) rfl (by kernel_rfl) (p0 hF50 (by kernel_rfl)) ?_; intro a51 hF52; clear hF50
      have hM53 : Mem w.heap.size [] w Z [.row b2 [.int .i64 u0.Sent, .int .i64 u0.Got, .int .i64 u0.Rest] 28] Z wd5 := hM47; clear hM47
      refine nlT ?_
      refine wp_ret ?_
      refine ibr ?_
      refine thr ?_
      refine rt (fn := Try.f18) (v := .int .i64 1) hF52 (re1 hF52 (fn := Try.f18) rfl (by kernel_rfl)) ?_
      exact ⟨1, rfl, hp49, hM53.below⟩
    · -- no
      have hp54 := hp26.2 hb48; clear hp26
      refine wp_skip ?_
      refine ibn ?_
      refine thn ?_
      have hF55 : Fr 16 [] [] a45 := hF46.region (by kernel_rfl) (by kernel_rfl); clear hF46
      refine sqR ?_
      refine st hF55 (.int .i64 0) (nog rfl _) rfl (by kernel_rfl) (p0 hF55 (by kernel_rfl)) ?_; intro a56 hF57; clear hF55
      have hM58 : Mem w.heap.size [] w Z [.row b2 [.int .i64 u0.Sent, .int .i64 u0.Got, .int .i64 u0.Rest] 28] Z wd5 := hM47; clear hM47
      refine nlT ?_
      refine wp_ret ?_
      refine rt (fn := Try.f18) (v := .int .i64 0) hF57 (re1 hF57 (fn := Try.f18) rfl (by kernel_rfl)) ?_
      exact ⟨0, rfl, hp54, hM58.below⟩
theorem hstate_fun (u0 : Health)  (Z : Fz) (w : World)  (hZ : Z.on w) : Calls Try.prog 18 #[.agg #[.int .i64 u0.Sent, .int .i64 u0.Got, .int .i64 u0.Rest]] w fun e w' => e = .returned (.int .i64 (hstate u0)) ∧ Below w.heap.size w w' :=
  (hstate_walk u0  Z w  hZ (hstate_ok u0)).mono fun _ _ ⟨r, he, hk, hb⟩ => ⟨by subst hk; exact he, hb⟩

set_option maxRecDepth 100000 in
theorem hState_walk (u0 : Health)  (Z : Fz) (w : World)  (hZ : Z.on w) {K : (Int × Int) → Prop} (hp : hState_vc u0 K) : Calls Try.prog 9 #[.agg #[.int .i64 u0.Sent, .int .i64 u0.Got, .int .i64 u0.Rest]] w fun e w' => ∃ r : Int × Int, e = .returned (.tuple #[.int .i64 r.1, .int .i64 r.2]) ∧ K r ∧ Below w.heap.size w w' := by
  refine enter0 Try.func9 rfl rfl (by kernel_rfl) ?_; intro a0 hF0; have hM0 := Mem.start w Z hZ; have hle0 := Fz.le.refl Z
  have hF1 : Fr 12 [] [⟨0, [], .agg #[.int .i64 u0.Sent, .int .i64 u0.Got, .int .i64 u0.Rest]⟩] a0 := hF0.region (by kernel_rfl) (by kernel_rfl); clear hF0
  refine sqR ?_
  refine sn hF1 hM0 (fun b => .pointer (some ⟨b, 0, none⟩)) [.int .i64 u0.Sent, .int .i64 u0.Got, .int .i64 u0.Rest] 28 (nog rfl _) rfl (by kernel_rfl) (by kernel_rfl) ?_; intro b2 a3 wd5 hF4 hM6; clear hF1 hM0
  refine st hF4 (.int .i64 0) (nog rfl _) rfl (by kernel_rfl) (p0 hF4 (by kernel_rfl)) ?_; intro a7 hF8; clear hF4
  refine st hF8 (.int .i64 0) (nog rfl _) rfl (by kernel_rfl) (p0 hF8 (by kernel_rfl)) ?_; intro a9 hF10; clear hF8
  have hM11 : Mem w.heap.size [] w Z [.row b2 [.int .i64 u0.Sent, .int .i64 u0.Got, .int .i64 u0.Rest] 28] Z wd5 := hM6; clear hM6
  refine nlT ?_
  refine wp_seq ?_
  have hF12 : Fr 12 [] [⟨1, [], .pointer (some ⟨b2, 0, none⟩)⟩] a9 := hF10.region (by kernel_rfl) (by kernel_rfl); clear hF10
  refine sqR ?_
  refine st hF12 (.agg #[.int .i64 u0.Sent, .int .i64 u0.Got, .int .i64 u0.Rest]) (nog rfl _) rfl (by kernel_rfl) (lda hF12 hM11 0 (g := []) (b := b2) (off := 0) (k := 3) (cs := [.int .i64 u0.Sent, .int .i64 u0.Got, .int .i64 u0.Rest]) (vs := [.int .i64 u0.Sent, .int .i64 u0.Got, .int .i64 u0.Rest]) (ty := 28) rfl (by kernel_rfl) (by kernel_rfl) (by kernel_rfl) (by kernel_rfl) (by kernel_rfl) rfl) ?_; intro a13 hF14; clear hF12
  refine fcl hF14 hM11 (.int .i64 (hcheck u0)) 12 #[.agg #[.int .i64 u0.Sent, .int .i64 u0.Got, .int .i64 u0.Rest]] (nog rfl _) rfl (by kernel_rfl) (fun _ => by kernel_rfl) (hcheck_fun u0 _ _ hM11.fz) ?_; intro a15 wd17 hF16 hM18; clear hF14 hM11
  refine st hF16 (.int .i64 (hcheck u0)) (nog rfl _) rfl (by kernel_rfl) (p0 hF16 (by kernel_rfl)) ?_; intro a19 hF20; clear hF16
  have hM21 : Mem w.heap.size [] w Z [.row b2 [.int .i64 u0.Sent, .int .i64 u0.Got, .int .i64 u0.Rest] 28] Z wd17 := hM18; clear hM18
  refine nlT ?_
  have hF22 : Fr 12 [] [⟨1, [], .pointer (some ⟨b2, 0, none⟩)⟩, ⟨4, [], .int .i64 (hcheck u0)⟩] a19 := hF20.region (by kernel_rfl) (by kernel_rfl); clear hF20
  refine sqR ?_
  refine st hF22 (.int .i64 (hcheck u0)) (nog rfl _) rfl (by kernel_rfl) (p0 hF22 (by kernel_rfl)) ?_; intro a23 hF24; clear hF22
  refine st hF24 (.bool ((hcheck u0) != 0)) (nog rfl _) rfl (by kernel_rfl) (p0 hF24 (by kernel_rfl)) ?_; intro a25 hF26; clear hF24
  have hM27 : Mem w.heap.size [] w Z [.row b2 [.int .i64 u0.Sent, .int .i64 u0.Got, .int .i64 u0.Rest] 28] Z wd17 := hM21; clear hM21
  refine nlT ?_
  refine cd hF26 (t := (hcheck u0) != 0) (by kernel_rfl) (fun hb28 => ?_) (fun hb28 => ?_)
  · -- yes
    have hp29 := hp.1 hb28; clear hp
    have hF30 : Fr 12 [] [⟨4, [], .int .i64 (hcheck u0)⟩] a25 := hF26.region (by kernel_rfl) (by kernel_rfl); clear hF26
    refine sqR ?_
    refine st hF30 (.int .i64 (hcheck u0)) (nog rfl _) rfl (by kernel_rfl) (p0 hF30 (by kernel_rfl)) ?_; intro a31 hF32; clear hF30
    refine st hF32 (.int .i64 0) (nog rfl _) rfl (by kernel_rfl) (p0 hF32 (by kernel_rfl)) ?_; intro a33 hF34; clear hF32
    refine st hF34 (.int .i64 (hcheck u0)) (nog rfl _) rfl (by kernel_rfl) (p0 hF34 (by kernel_rfl)) ?_; intro a35 hF36; clear hF34
    have hM37 : Mem w.heap.size [] w Z [.row b2 [.int .i64 u0.Sent, .int .i64 u0.Got, .int .i64 u0.Rest] 28] Z wd17 := hM27; clear hM27
    refine nlT ?_
    refine wp_ret ?_
    refine thr ?_
    refine rt (fn := Try.f9) (v := .tuple #[.int .i64 0, .int .i64 (hcheck u0)]) hF36 (re2 hF36 (fn := Try.f9) rfl (by kernel_rfl) (by kernel_rfl)) ?_
    exact ⟨(0, (hcheck u0)), rfl, hp29, hM37.below⟩
  · -- no
    have hp38 := hp.2 hb28; clear hp
    refine wp_skip ?_
    refine thn ?_
    have hF39 : Fr 12 [] [⟨1, [], .pointer (some ⟨b2, 0, none⟩)⟩] a25 := hF26.region (by kernel_rfl) (by kernel_rfl); clear hF26
    refine sqR ?_
    refine st hF39 (.agg #[.int .i64 u0.Sent, .int .i64 u0.Got, .int .i64 u0.Rest]) (nog rfl _) rfl (by kernel_rfl) (lda hF39 hM27 0 (g := []) (b := b2) (off := 0) (k := 3) (cs := [.int .i64 u0.Sent, .int .i64 u0.Got, .int .i64 u0.Rest]) (vs := [.int .i64 u0.Sent, .int .i64 u0.Got, .int .i64 u0.Rest]) (ty := 28) rfl (by kernel_rfl) (by kernel_rfl) (by kernel_rfl) (by kernel_rfl) (by kernel_rfl) rfl) ?_; intro a40 hF41; clear hF39
    refine fcl hF41 hM27 (.int .i64 (hstate u0)) 18 #[.agg #[.int .i64 u0.Sent, .int .i64 u0.Got, .int .i64 u0.Rest]] (nog rfl _) rfl (by kernel_rfl) (fun _ => by kernel_rfl) (hstate_fun u0 _ _ hM27.fz) ?_; intro a42 wd44 hF43 hM45; clear hF41 hM27
    refine st hF43 (.int .i64 (hstate u0)) (nog rfl _) rfl (by kernel_rfl) (p0 hF43 (by kernel_rfl)) ?_; intro a46 hF47; clear hF43
    refine st hF47 (.int .i64 0) (nog rfl _) rfl (by kernel_rfl) (p0 hF47 (by kernel_rfl)) ?_; intro a48 hF49; clear hF47
    have hM50 : Mem w.heap.size [] w Z [.row b2 [.int .i64 u0.Sent, .int .i64 u0.Got, .int .i64 u0.Rest] 28] Z wd44 := hM45; clear hM45
    refine nlT ?_
    refine wp_ret ?_
    refine rt (fn := Try.f9) (v := .tuple #[.int .i64 (hstate u0), .int .i64 0]) hF49 (re2 hF49 (fn := Try.f9) rfl (by kernel_rfl) (by kernel_rfl)) ?_
    exact ⟨((hstate u0), 0), rfl, hp38, hM50.below⟩
theorem hState_fun (u0 : Health)  (Z : Fz) (w : World)  (hZ : Z.on w) : Calls Try.prog 9 #[.agg #[.int .i64 u0.Sent, .int .i64 u0.Got, .int .i64 u0.Rest]] w fun e w' => e = .returned (.tuple #[.int .i64 ((hState u0).1), .int .i64 ((hState u0).2)]) ∧ Below w.heap.size w w' :=
  (hState_walk u0  Z w  hZ (hState_ok u0)).mono fun _ _ ⟨r, he, hk, hb⟩ => ⟨by subst hk; exact he, hb⟩

set_option maxRecDepth 100000 in
theorem hchange_walk (u0 : Health) (u1 : Int)  (Z : Fz) (w : World)  (hZ : Z.on w) {K : (Health × Int) → Prop} (hp : hchange_vc u0 u1 K) : Calls Try.prog 17 #[.agg #[.int .i64 u0.Sent, .int .i64 u0.Got, .int .i64 u0.Rest], .int .i64 u1] w fun e w' => ∃ r : Health × Int, e = .returned (.tuple #[.agg #[.int .i64 r.1.Sent, .int .i64 r.1.Got, .int .i64 r.1.Rest], .int .i64 r.2]) ∧ K r ∧ Below w.heap.size w w' := by
  refine enter0 Try.func17 rfl rfl (by kernel_rfl) ?_; intro a0 hF0; have hM0 := Mem.start w Z hZ; have hle0 := Fz.le.refl Z
  have hF1 : Fr 69 [] [⟨0, [], .agg #[.int .i64 u0.Sent, .int .i64 u0.Got, .int .i64 u0.Rest]⟩, ⟨1, [], .int .i64 u1⟩] a0 := hF0.region (by kernel_rfl) (by kernel_rfl); clear hF0
  refine sqR ?_
  refine sn hF1 hM0 (fun b => .pointer (some ⟨b, 0, none⟩)) [.int .i64 u0.Sent, .int .i64 u0.Got, .int .i64 u0.Rest] 28 (nog rfl _) rfl (by kernel_rfl) (by kernel_rfl) ?_; intro b2 a3 wd5 hF4 hM6; clear hF1 hM0
  refine sn hF4 hM6 (fun b => .pointer (some ⟨b, 0, none⟩)) [.int .i64 0, .int .i64 0, .int .i64 0] 28 (nog rfl _) rfl (by kernel_rfl) (by kernel_rfl) ?_; intro b7 a8 wd10 hF9 hM11; clear hF4 hM6
  refine st hF9 (.int .i64 0) (nog rfl _) rfl (by kernel_rfl) (p0 hF9 (by kernel_rfl)) ?_; intro a12 hF13; clear hF9
  have hM14 : Mem w.heap.size [] w Z [.row b7 [.int .i64 0, .int .i64 0, .int .i64 0] 28, .row b2 [.int .i64 u0.Sent, .int .i64 u0.Got, .int .i64 u0.Rest] 28] Z wd10 := hM11; clear hM11
  refine nlT ?_
  refine wp_seq ?_
  have hF15 : Fr 69 [] [⟨1, [], .int .i64 u1⟩, ⟨2, [], .pointer (some ⟨b2, 0, none⟩)⟩, ⟨4, [], .pointer (some ⟨b7, 0, none⟩)⟩] a12 := hF13.region (by kernel_rfl) (by kernel_rfl); clear hF13
  refine sqR ?_
  refine st hF15 (.agg #[.int .i64 u0.Sent, .int .i64 u0.Got, .int .i64 u0.Rest]) (nog rfl _) rfl (by kernel_rfl) (lda hF15 hM14 1 (g := []) (b := b2) (off := 0) (k := 3) (cs := [.int .i64 u0.Sent, .int .i64 u0.Got, .int .i64 u0.Rest]) (vs := [.int .i64 u0.Sent, .int .i64 u0.Got, .int .i64 u0.Rest]) (ty := 28) rfl (by kernel_rfl) (by kernel_rfl) (by kernel_rfl) (by kernel_rfl) (by kernel_rfl) rfl) ?_; intro a16 hF17; clear hF15
  refine fcl hF17 hM14 (.int .i64 (hstate u0)) 18 #[.agg #[.int .i64 u0.Sent, .int .i64 u0.Got, .int .i64 u0.Rest]] (nog rfl _) rfl (by kernel_rfl) (fun _ => by kernel_rfl) (hstate_fun u0 _ _ hM14.fz) ?_; intro a18 wd20 hF19 hM21; clear hF17 hM14
  refine st hF19 (.bool ((hstate u0) == 2)) (nog rfl _) rfl (by kernel_rfl) (p0 hF19 (by kernel_rfl)) ?_; intro a22 hF23; clear hF19
  have hM24 : Mem w.heap.size [] w Z [.row b7 [.int .i64 0, .int .i64 0, .int .i64 0] 28, .row b2 [.int .i64 u0.Sent, .int .i64 u0.Got, .int .i64 u0.Rest] 28] Z wd20 := hM21; clear hM21
  refine nlT ?_
  refine cd hF23 (t := (hstate u0) == 2) (by kernel_rfl) (fun hb25 => ?_) (fun hb25 => ?_)
  · -- yes
    have hp26 := hp.1 hb25; clear hp
    refine wp_seq ?_
    have hF27 : Fr 69 [] [⟨1, [], .int .i64 u1⟩, ⟨2, [], .pointer (some ⟨b2, 0, none⟩)⟩, ⟨4, [], .pointer (some ⟨b7, 0, none⟩)⟩] a22 := hF23.region (by kernel_rfl) (by kernel_rfl); clear hF23
    refine sqR ?_
    refine st hF27 (.int .i64 u1) (nog rfl _) rfl (by kernel_rfl) (p0 hF27 (by kernel_rfl)) ?_; intro a28 hF29; clear hF27
    have hM30 : Mem w.heap.size [] w Z [.row b7 [.int .i64 0, .int .i64 0, .int .i64 0] 28, .row b2 [.int .i64 u0.Sent, .int .i64 u0.Got, .int .i64 u0.Rest] 28] Z wd20 := hM24; clear hM24
    refine nlT ?_
    refine wp_block ?_
    have hF31 : Fr 69 [] [⟨2, [], .pointer (some ⟨b2, 0, none⟩)⟩, ⟨4, [], .pointer (some ⟨b7, 0, none⟩)⟩, ⟨10, [], .int .i64 u1⟩] a28 := hF29.region (by kernel_rfl) (by kernel_rfl); clear hF29
    refine sqR ?_
    refine st hF31 (.bool (u1 == 6)) (nog rfl _) rfl (by kernel_rfl) (p0 hF31 (by kernel_rfl)) ?_; intro a32 hF33; clear hF31
    refine st hF33 (.bool (u1 == 6)) (nog rfl _) rfl (by kernel_rfl) (p0 hF33 (by kernel_rfl)) ?_; intro a34 hF35; clear hF33
    have hM36 : Mem w.heap.size [] w Z [.row b7 [.int .i64 0, .int .i64 0, .int .i64 0] 28, .row b2 [.int .i64 u0.Sent, .int .i64 u0.Got, .int .i64 u0.Rest] 28] Z wd20 := hM30; clear hM30
    refine nlT ?_
    refine cd hF35 (t := u1 == 6) (by kernel_rfl) (fun hb37 => ?_) (fun hb37 => ?_)
    · -- yes
      have hp38 := hp26.1 hb37; clear hp26
      refine wp_seq ?_
      have hF39 : Fr 69 [] [⟨2, [], .pointer (some ⟨b2, 0, none⟩)⟩, ⟨4, [], .pointer (some ⟨b7, 0, none⟩)⟩] a34 := hF35.region (by kernel_rfl) (by kernel_rfl); clear hF35
      refine sqR ?_
      refine st hF39 (.pointer (some ⟨b2, 2, none⟩)) (nog rfl _) rfl (by kernel_rfl) (p0 hF39 (by kernel_rfl)) ?_; intro a40 hF41; clear hF39
      refine st hF41 (.int .i64 u0.Rest) (nog rfl _) rfl (by kernel_rfl) (ld hF41 hM36 1 (g := []) (b := b2) (off := 2) (cs := [.int .i64 u0.Sent, .int .i64 u0.Got, .int .i64 u0.Rest]) (ty := 28) rfl (by kernel_rfl) (by kernel_rfl) (by kernel_rfl) (by kernel_rfl) rfl) ?_; intro a42 hF43; clear hF41
      refine st hF43 (.int .i64 (w64 (u0.Rest + 1))) (nog rfl _) rfl (by kernel_rfl) (p0 hF43 (by kernel_rfl)) ?_; intro a44 hF45; clear hF43
      refine st hF45 (.pointer (some ⟨b2, 2, none⟩)) (nog rfl _) rfl (by kernel_rfl) (p0 hF45 (by kernel_rfl)) ?_; intro a46 hF47; clear hF45
      refine sr hF47 hM36 1 [.int .i64 u0.Sent, .int .i64 u0.Got, .int .i64 (w64 (u0.Rest + 1))] (b := b2) (off := 2) (cs := [.int .i64 u0.Sent, .int .i64 u0.Got, .int .i64 u0.Rest]) (ty := 28) (u := .int .i64 (w64 (u0.Rest + 1))) (nog rfl _) rfl rfl (by kernel_rfl) (by kernel_rfl) (by kernel_rfl) (by kernel_rfl) (by kernel_rfl) (by kernel_rfl) (by kernel_rfl) ?_; intro wd48 hM49; clear hM36
      have hM50 : Mem w.heap.size [] w Z [.row b7 [.int .i64 0, .int .i64 0, .int .i64 0] 28, .row b2 [.int .i64 u0.Sent, .int .i64 u0.Got, .int .i64 (w64 (u0.Rest + 1))] 28] Z wd48 := hM49; clear hM49
      refine nlT ?_
      have hF51 : Fr 69 [] [⟨2, [], .pointer (some ⟨b2, 0, none⟩)⟩, ⟨4, [], .pointer (some ⟨b7, 0, none⟩)⟩] a46 := hF47.region (by kernel_rfl) (by kernel_rfl); clear hF47
      refine sqR ?_
      refine st hF51 (.pointer (some ⟨b2, 2, none⟩)) (nog rfl _) rfl (by kernel_rfl) (p0 hF51 (by kernel_rfl)) ?_; intro a52 hF53; clear hF51
      refine st hF53 (.int .i64 (w64 (u0.Rest + 1))) (nog rfl _) rfl (by kernel_rfl) (ld hF53 hM50 1 (g := []) (b := b2) (off := 2) (cs := [.int .i64 u0.Sent, .int .i64 u0.Got, .int .i64 (w64 (u0.Rest + 1))]) (ty := 28) rfl (by kernel_rfl) (by kernel_rfl) (by kernel_rfl) (by kernel_rfl) rfl) ?_; intro a54 hF55; clear hF53
      refine st hF55 (.bool ((w64 (u0.Rest + 1)) == 128)) (nog rfl _) rfl (by kernel_rfl) (p0 hF55 (by kernel_rfl)) ?_; intro a56 hF57; clear hF55
      have hM58 : Mem w.heap.size [] w Z [.row b7 [.int .i64 0, .int .i64 0, .int .i64 0] 28, .row b2 [.int .i64 u0.Sent, .int .i64 u0.Got, .int .i64 (w64 (u0.Rest + 1))] 28] Z wd48 := hM50; clear hM50
      refine nlT ?_
      refine cd hF57 (t := (w64 (u0.Rest + 1)) == 128) (by kernel_rfl) (fun hb59 => ?_) (fun hb59 => ?_)
      · -- yes
        have hp60 := hp38.1 hb59; clear hp38
        have hF61 : Fr 69 [] [⟨4, [], .pointer (some ⟨b7, 0, none⟩)⟩] a56 := hF57.region (by kernel_rfl) (by kernel_rfl); clear hF57
        refine sqR ?_
        refine st hF61 (.agg #[.int .i64 0, .int .i64 0, .int .i64 0]) (nog rfl _) rfl (by kernel_rfl) (p0 hF61 (by kernel_rfl)) ?_; intro a62 hF63; clear hF61
        refine sr hF63 hM58 0 [.int .i64 0, .int .i64 0, .int .i64 0] (b := b7) (off := 0) (cs := [.int .i64 0, .int .i64 0, .int .i64 0]) (ty := 28) (u := .agg #[.int .i64 0, .int .i64 0, .int .i64 0]) (nog rfl _) rfl rfl (by kernel_rfl) (by kernel_rfl) (by kernel_rfl) (by kernel_rfl) (by kernel_rfl) (by kernel_rfl) (by kernel_rfl) ?_; intro wd64 hM65; clear hM58
        refine st hF63 (.int .i64 0) (nog rfl _) rfl (by kernel_rfl) (p0 hF63 (by kernel_rfl)) ?_; intro a66 hF67; clear hF63
        have hM68 : Mem w.heap.size [] w Z [.row b7 [.int .i64 0, .int .i64 0, .int .i64 0] 28, .row b2 [.int .i64 u0.Sent, .int .i64 u0.Got, .int .i64 (w64 (u0.Rest + 1))] 28] Z wd64 := hM65; clear hM65
        refine nlT ?_
        refine wp_ret ?_
        refine thr ?_
        refine ibr ?_
        refine thr ?_
        refine thr ?_
        refine rt (fn := Try.f17) (v := .tuple #[.agg #[.int .i64 0, .int .i64 0, .int .i64 0], .int .i64 0]) hF67 (re2c hF67 (fn := Try.f17) rfl (ad := ⟨b7, 0, none⟩) (by kernel_rfl) (loadVar_run hM68 0 (b := b7) (k := 3) (vs := [.int .i64 0, .int .i64 0, .int .i64 0]) (ty := 28) rfl (by kernel_rfl) (by kernel_rfl)) (by kernel_rfl)) ?_
        exact ⟨((⟨0, 0, 0⟩ : Health), 0), rfl, hp60, hM68.below⟩
      · -- no
        have hp69 := hp38.2 hb59; clear hp38
        refine wp_skip ?_
        refine thn ?_
        have hF70 : Fr 69 [] [⟨2, [], .pointer (some ⟨b2, 0, none⟩)⟩, ⟨4, [], .pointer (some ⟨b7, 0, none⟩)⟩] a56 := hF57.region (by kernel_rfl) (by kernel_rfl); clear hF57
        refine sqR ?_
        refine st hF70 (.agg #[.int .i64 u0.Sent, .int .i64 u0.Got, .int .i64 (w64 (u0.Rest + 1))]) (nog rfl _) rfl (by kernel_rfl) (lda hF70 hM58 1 (g := []) (b := b2) (off := 0) (k := 3) (cs := [.int .i64 u0.Sent, .int .i64 u0.Got, .int .i64 (w64 (u0.Rest + 1))]) (vs := [.int .i64 u0.Sent, .int .i64 u0.Got, .int .i64 (w64 (u0.Rest + 1))]) (ty := 28) rfl (by kernel_rfl) (by kernel_rfl) (by kernel_rfl) (by kernel_rfl) (by kernel_rfl) rfl) ?_; intro a71 hF72; clear hF70
        refine sr hF72 hM58 0 [.int .i64 u0.Sent, .int .i64 u0.Got, .int .i64 (w64 (u0.Rest + 1))] (b := b7) (off := 0) (cs := [.int .i64 0, .int .i64 0, .int .i64 0]) (ty := 28) (u := .agg #[.int .i64 u0.Sent, .int .i64 u0.Got, .int .i64 (w64 (u0.Rest + 1))]) (nog rfl _) rfl rfl (by kernel_rfl) (by kernel_rfl) (by kernel_rfl) (by kernel_rfl) (by kernel_rfl) (by kernel_rfl) (by kernel_rfl) ?_; intro wd73 hM74; clear hM58
        refine st hF72 (.int .i64 0) (nog rfl _) rfl (by kernel_rfl) (p0 hF72 (by kernel_rfl)) ?_; intro a75 hF76; clear hF72
        have hM77 : Mem w.heap.size [] w Z [.row b7 [.int .i64 u0.Sent, .int .i64 u0.Got, .int .i64 (w64 (u0.Rest + 1))] 28, .row b2 [.int .i64 u0.Sent, .int .i64 u0.Got, .int .i64 (w64 (u0.Rest + 1))] 28] Z wd73 := hM74; clear hM74
        refine nlT ?_
        refine wp_ret ?_
        refine ibr ?_
        refine thr ?_
        refine thr ?_
        refine rt (fn := Try.f17) (v := .tuple #[.agg #[.int .i64 u0.Sent, .int .i64 u0.Got, .int .i64 (w64 (u0.Rest + 1))], .int .i64 0]) hF76 (re2c hF76 (fn := Try.f17) rfl (ad := ⟨b7, 0, none⟩) (by kernel_rfl) (loadVar_run hM77 0 (b := b7) (k := 3) (vs := [.int .i64 u0.Sent, .int .i64 u0.Got, .int .i64 (w64 (u0.Rest + 1))]) (ty := 28) rfl (by kernel_rfl) (by kernel_rfl)) (by kernel_rfl)) ?_
        exact ⟨((⟨u0.Sent, u0.Got, w64 (u0.Rest + 1)⟩ : Health), 0), rfl, hp69, hM77.below⟩
    · -- no
      have hp78 := hp26.2 hb37; clear hp26
      refine wp_seq ?_
      have hF79 : Fr 69 [] [⟨2, [], .pointer (some ⟨b2, 0, none⟩)⟩, ⟨4, [], .pointer (some ⟨b7, 0, none⟩)⟩, ⟨10, [], .int .i64 u1⟩] a34 := hF35.region (by kernel_rfl) (by kernel_rfl); clear hF35
      refine sqR ?_
      refine st hF79 (.bool (u1 == 1)) (nog rfl _) rfl (by kernel_rfl) (p0 hF79 (by kernel_rfl)) ?_; intro a80 hF81; clear hF79
      refine st hF81 (.bool (u1 == 1)) (nog rfl _) rfl (by kernel_rfl) (p0 hF81 (by kernel_rfl)) ?_; intro a82 hF83; clear hF81
      have hM84 : Mem w.heap.size [] w Z [.row b7 [.int .i64 0, .int .i64 0, .int .i64 0] 28, .row b2 [.int .i64 u0.Sent, .int .i64 u0.Got, .int .i64 u0.Rest] 28] Z wd20 := hM36; clear hM36
      refine nlT ?_
      refine cd hF83 (t := u1 == 1) (by kernel_rfl) (fun hb85 => ?_) (fun hb85 => ?_)
      · -- yes
        have hp86 := hp78.1 hb85; clear hp78
        refine wp_skip ?_
        refine thn ?_
        refine cd hF83 (t := u1 == 1) (by kernel_rfl) (fun _ => ?_) (fun h => Bool.noConfusion (hb85.symm.trans h))
        have hF88 : Fr 69 [] [⟨2, [], .pointer (some ⟨b2, 0, none⟩)⟩, ⟨4, [], .pointer (some ⟨b7, 0, none⟩)⟩] a82 := hF83.region (by kernel_rfl) (by kernel_rfl); clear hF83
        refine sqR ?_
        refine st hF88 (.agg #[.int .i64 u0.Sent, .int .i64 u0.Got, .int .i64 u0.Rest]) (nog rfl _) rfl (by kernel_rfl) (lda hF88 hM84 1 (g := []) (b := b2) (off := 0) (k := 3) (cs := [.int .i64 u0.Sent, .int .i64 u0.Got, .int .i64 u0.Rest]) (vs := [.int .i64 u0.Sent, .int .i64 u0.Got, .int .i64 u0.Rest]) (ty := 28) rfl (by kernel_rfl) (by kernel_rfl) (by kernel_rfl) (by kernel_rfl) (by kernel_rfl) rfl) ?_; intro a89 hF90; clear hF88
        refine sr hF90 hM84 0 [.int .i64 u0.Sent, .int .i64 u0.Got, .int .i64 u0.Rest] (b := b7) (off := 0) (cs := [.int .i64 0, .int .i64 0, .int .i64 0]) (ty := 28) (u := .agg #[.int .i64 u0.Sent, .int .i64 u0.Got, .int .i64 u0.Rest]) (nog rfl _) rfl rfl (by kernel_rfl) (by kernel_rfl) (by kernel_rfl) (by kernel_rfl) (by kernel_rfl) (by kernel_rfl) (by kernel_rfl) ?_; intro wd91 hM92; clear hM84
        refine st hF90 (.int .i64 0) (nog rfl _) rfl (by kernel_rfl) (p0 hF90 (by kernel_rfl)) ?_; intro a93 hF94; clear hF90
        have hM95 : Mem w.heap.size [] w Z [.row b7 [.int .i64 u0.Sent, .int .i64 u0.Got, .int .i64 u0.Rest] 28, .row b2 [.int .i64 u0.Sent, .int .i64 u0.Got, .int .i64 u0.Rest] 28] Z wd91 := hM92; clear hM92
        refine nlT ?_
        refine wp_ret ?_
        refine ibr ?_
        refine thr ?_
        refine thr ?_
        refine rt (fn := Try.f17) (v := .tuple #[.agg #[.int .i64 u0.Sent, .int .i64 u0.Got, .int .i64 u0.Rest], .int .i64 0]) hF94 (re2c hF94 (fn := Try.f17) rfl (ad := ⟨b7, 0, none⟩) (by kernel_rfl) (loadVar_run hM95 0 (b := b7) (k := 3) (vs := [.int .i64 u0.Sent, .int .i64 u0.Got, .int .i64 u0.Rest]) (ty := 28) rfl (by kernel_rfl) (by kernel_rfl)) (by kernel_rfl)) ?_
        exact ⟨(u0, 0), rfl, hp86, hM95.below⟩
      · -- no
        have hp96 := hp78.2 hb85; clear hp78
        have hF97 : Fr 69 [] [⟨2, [], .pointer (some ⟨b2, 0, none⟩)⟩, ⟨4, [], .pointer (some ⟨b7, 0, none⟩)⟩, ⟨10, [], .int .i64 u1⟩] a82 := hF83.region (by kernel_rfl) (by kernel_rfl); clear hF83
        refine sqR ?_
        refine st hF97 (.bool (u1 == 2)) (nog rfl _) rfl (by kernel_rfl) (p0 hF97 (by kernel_rfl)) ?_; intro a98 hF99; clear hF97
        refine st hF99 (.bool (u1 == 2)) (nog rfl _) rfl (by kernel_rfl) (p0 hF99 (by kernel_rfl)) ?_; intro a100 hF101; clear hF99
        have hM102 : Mem w.heap.size [] w Z [.row b7 [.int .i64 0, .int .i64 0, .int .i64 0] 28, .row b2 [.int .i64 u0.Sent, .int .i64 u0.Got, .int .i64 u0.Rest] 28] Z wd20 := hM84; clear hM84
        refine nlT ?_
        refine cd hF101 (t := u1 == 2) (by kernel_rfl) (fun hb103 => ?_) (fun hb103 => ?_)
        · -- yes
          have hp104 := hp96.1 hb103; clear hp96
          refine wp_skip ?_
          refine thn ?_
          refine cd hF101 (t := u1 == 2) (by kernel_rfl) (fun _ => ?_) (fun h => Bool.noConfusion (hb103.symm.trans h))
          have hF106 : Fr 69 [] [⟨2, [], .pointer (some ⟨b2, 0, none⟩)⟩, ⟨4, [], .pointer (some ⟨b7, 0, none⟩)⟩] a100 := hF101.region (by kernel_rfl) (by kernel_rfl); clear hF101
          refine sqR ?_
          refine st hF106 (.agg #[.int .i64 u0.Sent, .int .i64 u0.Got, .int .i64 u0.Rest]) (nog rfl _) rfl (by kernel_rfl) (lda hF106 hM102 1 (g := []) (b := b2) (off := 0) (k := 3) (cs := [.int .i64 u0.Sent, .int .i64 u0.Got, .int .i64 u0.Rest]) (vs := [.int .i64 u0.Sent, .int .i64 u0.Got, .int .i64 u0.Rest]) (ty := 28) rfl (by kernel_rfl) (by kernel_rfl) (by kernel_rfl) (by kernel_rfl) (by kernel_rfl) rfl) ?_; intro a107 hF108; clear hF106
          refine sr hF108 hM102 0 [.int .i64 u0.Sent, .int .i64 u0.Got, .int .i64 u0.Rest] (b := b7) (off := 0) (cs := [.int .i64 0, .int .i64 0, .int .i64 0]) (ty := 28) (u := .agg #[.int .i64 u0.Sent, .int .i64 u0.Got, .int .i64 u0.Rest]) (nog rfl _) rfl rfl (by kernel_rfl) (by kernel_rfl) (by kernel_rfl) (by kernel_rfl) (by kernel_rfl) (by kernel_rfl) (by kernel_rfl) ?_; intro wd109 hM110; clear hM102
          refine st hF108 (.int .i64 0) (nog rfl _) rfl (by kernel_rfl) (p0 hF108 (by kernel_rfl)) ?_; intro a111 hF112; clear hF108
          have hM113 : Mem w.heap.size [] w Z [.row b7 [.int .i64 u0.Sent, .int .i64 u0.Got, .int .i64 u0.Rest] 28, .row b2 [.int .i64 u0.Sent, .int .i64 u0.Got, .int .i64 u0.Rest] 28] Z wd109 := hM110; clear hM110
          refine nlT ?_
          refine wp_ret ?_
          refine ibr ?_
          refine thr ?_
          refine thr ?_
          refine rt (fn := Try.f17) (v := .tuple #[.agg #[.int .i64 u0.Sent, .int .i64 u0.Got, .int .i64 u0.Rest], .int .i64 0]) hF112 (re2c hF112 (fn := Try.f17) rfl (ad := ⟨b7, 0, none⟩) (by kernel_rfl) (loadVar_run hM113 0 (b := b7) (k := 3) (vs := [.int .i64 u0.Sent, .int .i64 u0.Got, .int .i64 u0.Rest]) (ty := 28) rfl (by kernel_rfl) (by kernel_rfl)) (by kernel_rfl)) ?_
          exact ⟨(u0, 0), rfl, hp104, hM113.below⟩
        · -- no
          have hp114 := hp96.2 hb103; clear hp96
          have hF115 : Fr 69 [] [⟨2, [], .pointer (some ⟨b2, 0, none⟩)⟩, ⟨4, [], .pointer (some ⟨b7, 0, none⟩)⟩, ⟨10, [], .int .i64 u1⟩] a100 := hF101.region (by kernel_rfl) (by kernel_rfl); clear hF101
          refine sqR ?_
          refine st hF115 (.bool (u1 == 3)) (nog rfl _) rfl (by kernel_rfl) (p0 hF115 (by kernel_rfl)) ?_; intro a116 hF117; clear hF115
          refine st hF117 (.bool (u1 == 3)) (nog rfl _) rfl (by kernel_rfl) (p0 hF117 (by kernel_rfl)) ?_; intro a118 hF119; clear hF117
          have hM120 : Mem w.heap.size [] w Z [.row b7 [.int .i64 0, .int .i64 0, .int .i64 0] 28, .row b2 [.int .i64 u0.Sent, .int .i64 u0.Got, .int .i64 u0.Rest] 28] Z wd20 := hM102; clear hM102
          refine nlT ?_
          refine cd hF119 (t := u1 == 3) (by kernel_rfl) (fun hb121 => ?_) (fun hb121 => ?_)
          · -- yes
            have hp122 := hp114.1 hb121; clear hp114
            refine wp_skip ?_
            refine thn ?_
            refine cd hF119 (t := u1 == 3) (by kernel_rfl) (fun _ => ?_) (fun h => Bool.noConfusion (hb121.symm.trans h))
            have hF124 : Fr 69 [] [⟨2, [], .pointer (some ⟨b2, 0, none⟩)⟩, ⟨4, [], .pointer (some ⟨b7, 0, none⟩)⟩] a118 := hF119.region (by kernel_rfl) (by kernel_rfl); clear hF119
            refine sqR ?_
            refine st hF124 (.agg #[.int .i64 u0.Sent, .int .i64 u0.Got, .int .i64 u0.Rest]) (nog rfl _) rfl (by kernel_rfl) (lda hF124 hM120 1 (g := []) (b := b2) (off := 0) (k := 3) (cs := [.int .i64 u0.Sent, .int .i64 u0.Got, .int .i64 u0.Rest]) (vs := [.int .i64 u0.Sent, .int .i64 u0.Got, .int .i64 u0.Rest]) (ty := 28) rfl (by kernel_rfl) (by kernel_rfl) (by kernel_rfl) (by kernel_rfl) (by kernel_rfl) rfl) ?_; intro a125 hF126; clear hF124
            refine sr hF126 hM120 0 [.int .i64 u0.Sent, .int .i64 u0.Got, .int .i64 u0.Rest] (b := b7) (off := 0) (cs := [.int .i64 0, .int .i64 0, .int .i64 0]) (ty := 28) (u := .agg #[.int .i64 u0.Sent, .int .i64 u0.Got, .int .i64 u0.Rest]) (nog rfl _) rfl rfl (by kernel_rfl) (by kernel_rfl) (by kernel_rfl) (by kernel_rfl) (by kernel_rfl) (by kernel_rfl) (by kernel_rfl) ?_; intro wd127 hM128; clear hM120
            refine st hF126 (.int .i64 0) (nog rfl _) rfl (by kernel_rfl) (p0 hF126 (by kernel_rfl)) ?_; intro a129 hF130; clear hF126
            have hM131 : Mem w.heap.size [] w Z [.row b7 [.int .i64 u0.Sent, .int .i64 u0.Got, .int .i64 u0.Rest] 28, .row b2 [.int .i64 u0.Sent, .int .i64 u0.Got, .int .i64 u0.Rest] 28] Z wd127 := hM128; clear hM128
            refine nlT ?_
            refine wp_ret ?_
            refine ibr ?_
            refine thr ?_
            refine thr ?_
            refine rt (fn := Try.f17) (v := .tuple #[.agg #[.int .i64 u0.Sent, .int .i64 u0.Got, .int .i64 u0.Rest], .int .i64 0]) hF130 (re2c hF130 (fn := Try.f17) rfl (ad := ⟨b7, 0, none⟩) (by kernel_rfl) (loadVar_run hM131 0 (b := b7) (k := 3) (vs := [.int .i64 u0.Sent, .int .i64 u0.Got, .int .i64 u0.Rest]) (ty := 28) rfl (by kernel_rfl) (by kernel_rfl)) (by kernel_rfl)) ?_
            exact ⟨(u0, 0), rfl, hp122, hM131.below⟩
          · -- no
            have hp132 := hp114.2 hb121; clear hp114
            have hF133 : Fr 69 [] [⟨2, [], .pointer (some ⟨b2, 0, none⟩)⟩, ⟨4, [], .pointer (some ⟨b7, 0, none⟩)⟩, ⟨10, [], .int .i64 u1⟩] a118 := hF119.region (by kernel_rfl) (by kernel_rfl); clear hF119
            refine sqR ?_
            refine st hF133 (.bool (u1 == 4)) (nog rfl _) rfl (by kernel_rfl) (p0 hF133 (by kernel_rfl)) ?_; intro a134 hF135; clear hF133
            refine st hF135 (.bool (u1 == 4)) (nog rfl _) rfl (by kernel_rfl) (p0 hF135 (by kernel_rfl)) ?_; intro a136 hF137; clear hF135
            have hM138 : Mem w.heap.size [] w Z [.row b7 [.int .i64 0, .int .i64 0, .int .i64 0] 28, .row b2 [.int .i64 u0.Sent, .int .i64 u0.Got, .int .i64 u0.Rest] 28] Z wd20 := hM120; clear hM120
            refine nlT ?_
            refine cd hF137 (t := u1 == 4) (by kernel_rfl) (fun hb139 => ?_) (fun hb139 => ?_)
            · -- yes
              have hp140 := hp132.1 hb139; clear hp132
              refine wp_skip ?_
              refine thn ?_
              refine cd hF137 (t := u1 == 4) (by kernel_rfl) (fun _ => ?_) (fun h => Bool.noConfusion (hb139.symm.trans h))
              have hF142 : Fr 69 [] [⟨2, [], .pointer (some ⟨b2, 0, none⟩)⟩, ⟨4, [], .pointer (some ⟨b7, 0, none⟩)⟩] a136 := hF137.region (by kernel_rfl) (by kernel_rfl); clear hF137
              refine sqR ?_
              refine st hF142 (.agg #[.int .i64 u0.Sent, .int .i64 u0.Got, .int .i64 u0.Rest]) (nog rfl _) rfl (by kernel_rfl) (lda hF142 hM138 1 (g := []) (b := b2) (off := 0) (k := 3) (cs := [.int .i64 u0.Sent, .int .i64 u0.Got, .int .i64 u0.Rest]) (vs := [.int .i64 u0.Sent, .int .i64 u0.Got, .int .i64 u0.Rest]) (ty := 28) rfl (by kernel_rfl) (by kernel_rfl) (by kernel_rfl) (by kernel_rfl) (by kernel_rfl) rfl) ?_; intro a143 hF144; clear hF142
              refine sr hF144 hM138 0 [.int .i64 u0.Sent, .int .i64 u0.Got, .int .i64 u0.Rest] (b := b7) (off := 0) (cs := [.int .i64 0, .int .i64 0, .int .i64 0]) (ty := 28) (u := .agg #[.int .i64 u0.Sent, .int .i64 u0.Got, .int .i64 u0.Rest]) (nog rfl _) rfl rfl (by kernel_rfl) (by kernel_rfl) (by kernel_rfl) (by kernel_rfl) (by kernel_rfl) (by kernel_rfl) (by kernel_rfl) ?_; intro wd145 hM146; clear hM138
              refine st hF144 (.int .i64 0) (nog rfl _) rfl (by kernel_rfl) (p0 hF144 (by kernel_rfl)) ?_; intro a147 hF148; clear hF144
              have hM149 : Mem w.heap.size [] w Z [.row b7 [.int .i64 u0.Sent, .int .i64 u0.Got, .int .i64 u0.Rest] 28, .row b2 [.int .i64 u0.Sent, .int .i64 u0.Got, .int .i64 u0.Rest] 28] Z wd145 := hM146; clear hM146
              refine nlT ?_
              refine wp_ret ?_
              refine ibr ?_
              refine thr ?_
              refine thr ?_
              refine rt (fn := Try.f17) (v := .tuple #[.agg #[.int .i64 u0.Sent, .int .i64 u0.Got, .int .i64 u0.Rest], .int .i64 0]) hF148 (re2c hF148 (fn := Try.f17) rfl (ad := ⟨b7, 0, none⟩) (by kernel_rfl) (loadVar_run hM149 0 (b := b7) (k := 3) (vs := [.int .i64 u0.Sent, .int .i64 u0.Got, .int .i64 u0.Rest]) (ty := 28) rfl (by kernel_rfl) (by kernel_rfl)) (by kernel_rfl)) ?_
              exact ⟨(u0, 0), rfl, hp140, hM149.below⟩
            · -- no
              have hp150 := hp132.2 hb139; clear hp132
              have hF151 : Fr 69 [] [⟨2, [], .pointer (some ⟨b2, 0, none⟩)⟩, ⟨4, [], .pointer (some ⟨b7, 0, none⟩)⟩, ⟨10, [], .int .i64 u1⟩] a136 := hF137.region (by kernel_rfl) (by kernel_rfl); clear hF137
              refine wp_region_lit ?_
              refine st hF151 (.bool (u1 == 5)) (nog rfl _) rfl (by kernel_rfl) (p0 hF151 (by kernel_rfl)) ?_; intro a152 hF153; clear hF151
              refine st hF153 (.bool (u1 == 5)) (nog rfl _) rfl (by kernel_rfl) (p0 hF153 (by kernel_rfl)) ?_; intro a154 hF155; clear hF153
              have hM156 : Mem w.heap.size [] w Z [.row b7 [.int .i64 0, .int .i64 0, .int .i64 0] 28, .row b2 [.int .i64 u0.Sent, .int .i64 u0.Got, .int .i64 u0.Rest] 28] Z wd20 := hM138; clear hM138
              refine nl ?_
              refine thn ?_
              refine cd hF155 (t := u1 == 5) (by kernel_rfl) (fun hb157 => ?_) (fun hb157 => ?_)
              · -- yes
                have hp158 := hp150.1 hb157; clear hp150
                have hF159 : Fr 69 [] [⟨2, [], .pointer (some ⟨b2, 0, none⟩)⟩, ⟨4, [], .pointer (some ⟨b7, 0, none⟩)⟩] a154 := hF155.region (by kernel_rfl) (by kernel_rfl); clear hF155
                refine sqR ?_
                refine st hF159 (.agg #[.int .i64 u0.Sent, .int .i64 u0.Got, .int .i64 u0.Rest]) (nog rfl _) rfl (by kernel_rfl) (lda hF159 hM156 1 (g := []) (b := b2) (off := 0) (k := 3) (cs := [.int .i64 u0.Sent, .int .i64 u0.Got, .int .i64 u0.Rest]) (vs := [.int .i64 u0.Sent, .int .i64 u0.Got, .int .i64 u0.Rest]) (ty := 28) rfl (by kernel_rfl) (by kernel_rfl) (by kernel_rfl) (by kernel_rfl) (by kernel_rfl) rfl) ?_; intro a160 hF161; clear hF159
                refine sr hF161 hM156 0 [.int .i64 u0.Sent, .int .i64 u0.Got, .int .i64 u0.Rest] (b := b7) (off := 0) (cs := [.int .i64 0, .int .i64 0, .int .i64 0]) (ty := 28) (u := .agg #[.int .i64 u0.Sent, .int .i64 u0.Got, .int .i64 u0.Rest]) (nog rfl _) rfl rfl (by kernel_rfl) (by kernel_rfl) (by kernel_rfl) (by kernel_rfl) (by kernel_rfl) (by kernel_rfl) (by kernel_rfl) ?_; intro wd162 hM163; clear hM156
                refine st hF161 (.int .i64 0) (nog rfl _) rfl (by kernel_rfl) (p0 hF161 (by kernel_rfl)) ?_; intro a164 hF165; clear hF161
                have hM166 : Mem w.heap.size [] w Z [.row b7 [.int .i64 u0.Sent, .int .i64 u0.Got, .int .i64 u0.Rest] 28, .row b2 [.int .i64 u0.Sent, .int .i64 u0.Got, .int .i64 u0.Rest] 28] Z wd162 := hM163; clear hM163
                refine nlT ?_
                refine wp_ret ?_
                refine ibr ?_
                refine thr ?_
                refine thr ?_
                refine rt (fn := Try.f17) (v := .tuple #[.agg #[.int .i64 u0.Sent, .int .i64 u0.Got, .int .i64 u0.Rest], .int .i64 0]) hF165 (re2c hF165 (fn := Try.f17) rfl (ad := ⟨b7, 0, none⟩) (by kernel_rfl) (loadVar_run hM166 0 (b := b7) (k := 3) (vs := [.int .i64 u0.Sent, .int .i64 u0.Got, .int .i64 u0.Rest]) (ty := 28) rfl (by kernel_rfl) (by kernel_rfl)) (by kernel_rfl)) ?_
                exact ⟨(u0, 0), rfl, hp158, hM166.below⟩
              · -- no
                have hp167 := hp150.2 hb157; clear hp150
                refine wp_skip ?_
                refine ibn ?_
                refine thn ?_
                have hF168 : Fr 69 [] [⟨4, [], .pointer (some ⟨b7, 0, none⟩)⟩] a154 := hF155.region (by kernel_rfl) (by kernel_rfl); clear hF155
                refine sqR ?_
                refine st hF168 (.agg #[.int .i64 0, .int .i64 0, .int .i64 0]) (nog rfl _) rfl (by kernel_rfl) (p0 hF168 (by kernel_rfl)) ?_; intro a169 hF170; clear hF168
                refine sr hF170 hM156 0 [.int .i64 0, .int .i64 0, .int .i64 0] (b := b7) (off := 0) (cs := [.int .i64 0, .int .i64 0, .int .i64 0]) (ty := 28) (u := .agg #[.int .i64 0, .int .i64 0, .int .i64 0]) (nog rfl _) rfl rfl (by kernel_rfl) (by kernel_rfl) (by kernel_rfl) (by kernel_rfl) (by kernel_rfl) (by kernel_rfl) (by kernel_rfl) ?_; intro wd171 hM172; clear hM156
                refine st hF170 (.int .i64 8) (nog rfl _) rfl (by kernel_rfl) (p0 hF170 (by kernel_rfl)) ?_; intro a173 hF174; clear hF170
                have hM175 : Mem w.heap.size [] w Z [.row b7 [.int .i64 0, .int .i64 0, .int .i64 0] 28, .row b2 [.int .i64 u0.Sent, .int .i64 u0.Got, .int .i64 u0.Rest] 28] Z wd171 := hM172; clear hM172
                refine nlT ?_
                refine wp_ret ?_
                refine thr ?_
                refine rt (fn := Try.f17) (v := .tuple #[.agg #[.int .i64 0, .int .i64 0, .int .i64 0], .int .i64 8]) hF174 (re2c hF174 (fn := Try.f17) rfl (ad := ⟨b7, 0, none⟩) (by kernel_rfl) (loadVar_run hM175 0 (b := b7) (k := 3) (vs := [.int .i64 0, .int .i64 0, .int .i64 0]) (ty := 28) rfl (by kernel_rfl) (by kernel_rfl)) (by kernel_rfl)) ?_
                exact ⟨((⟨0, 0, 0⟩ : Health), 8), rfl, hp167, hM175.below⟩
  · -- no
    have hp176 := hp.2 hb25; clear hp
    refine wp_skip ?_
    refine thn ?_
    refine wp_seq ?_
    have hF177 : Fr 69 [] [⟨1, [], .int .i64 u1⟩, ⟨2, [], .pointer (some ⟨b2, 0, none⟩)⟩, ⟨4, [], .pointer (some ⟨b7, 0, none⟩)⟩] a22 := hF23.region (by kernel_rfl) (by kernel_rfl); clear hF23
    refine sqR ?_
    refine st hF177 (.int .i64 u1) (nog rfl _) rfl (by kernel_rfl) (p0 hF177 (by kernel_rfl)) ?_; intro a178 hF179; clear hF177
    refine st hF179 (.bool (decide (u1 < 1))) (nog rfl _) rfl (by kernel_rfl) (p0 hF179 (by kernel_rfl)) ?_; intro a180 hF181; clear hF179
    refine st hF181 (.bool (decide (u1 < 1))) (nog rfl _) rfl (by kernel_rfl) (p0 hF181 (by kernel_rfl)) ?_; intro a182 hF183; clear hF181
    have hF184 := hF183.atom ((decide (u1 < 1)) == false) (by kernel_rfl); clear hF183
    refine gd hF184 (.int .i64 u1) (m := 0) (cj := []) (bj := decide (u1 < 1)) rfl rfl (by kernel_rfl) rfl (by kernel_rfl) (by kernel_rfl) (by kernel_rfl) (fun hg => pu hF184 (g := [0]) (by kernel_rfl) hg) ?_; intro a185 hF186; clear hF184
    refine gd hF186 (.bool (decide (u1 > 6))) (m := 0) (cj := []) (bj := decide (u1 < 1)) rfl rfl (by kernel_rfl) rfl (by kernel_rfl) (by kernel_rfl) (by kernel_rfl) (fun hg => pu hF186 (g := [0]) (by kernel_rfl) hg) ?_; intro a187 hF188; clear hF186
    refine st hF188 (.bool ((decide (u1 < 1)) || (decide (u1 > 6)))) (nog rfl _) rfl (by kernel_rfl) (pk_or hF188 (g := []) (m := 0) (b := decide (u1 < 1)) (v := decide (u1 > 6)) rfl (by kernel_rfl) (by kernel_rfl) (by kernel_rfl) rfl) ?_; intro a189 hF190; clear hF188
    have hM191 : Mem w.heap.size [] w Z [.row b7 [.int .i64 0, .int .i64 0, .int .i64 0] 28, .row b2 [.int .i64 u0.Sent, .int .i64 u0.Got, .int .i64 u0.Rest] 28] Z wd20 := hM24; clear hM24
    refine nlT ?_
    refine cd hF190 (t := (decide (u1 < 1)) || (decide (u1 > 6))) (by kernel_rfl) (fun hb192 => ?_) (fun hb192 => ?_)
    · -- yes
      have hp193 := hp176.1 hb192; clear hp176
      have hF194 : Fr 69 [] [⟨4, [], .pointer (some ⟨b7, 0, none⟩)⟩] a189 := hF190.region (by kernel_rfl) (by kernel_rfl); clear hF190
      refine sqR ?_
      refine st hF194 (.agg #[.int .i64 0, .int .i64 0, .int .i64 0]) (nog rfl _) rfl (by kernel_rfl) (p0 hF194 (by kernel_rfl)) ?_; intro a195 hF196; clear hF194
      refine sr hF196 hM191 0 [.int .i64 0, .int .i64 0, .int .i64 0] (b := b7) (off := 0) (cs := [.int .i64 0, .int .i64 0, .int .i64 0]) (ty := 28) (u := .agg #[.int .i64 0, .int .i64 0, .int .i64 0]) (nog rfl _) rfl rfl (by kernel_rfl) (by kernel_rfl) (by kernel_rfl) (by kernel_rfl) (by kernel_rfl) (by kernel_rfl) (by kernel_rfl) ?_; intro wd197 hM198; clear hM191
      refine st hF196 (.int .i64 8) (nog rfl _) rfl (by kernel_rfl) (p0 hF196 (by kernel_rfl)) ?_; intro a199 hF200; clear hF196
      have hM201 : Mem w.heap.size [] w Z [.row b7 [.int .i64 0, .int .i64 0, .int .i64 0] 28, .row b2 [.int .i64 u0.Sent, .int .i64 u0.Got, .int .i64 u0.Rest] 28] Z wd197 := hM198; clear hM198
      refine nlT ?_
      refine wp_ret ?_
      refine thr ?_
      refine rt (fn := Try.f17) (v := .tuple #[.agg #[.int .i64 0, .int .i64 0, .int .i64 0], .int .i64 8]) hF200 (re2c hF200 (fn := Try.f17) rfl (ad := ⟨b7, 0, none⟩) (by kernel_rfl) (loadVar_run hM201 0 (b := b7) (k := 3) (vs := [.int .i64 0, .int .i64 0, .int .i64 0]) (ty := 28) rfl (by kernel_rfl) (by kernel_rfl)) (by kernel_rfl)) ?_
      exact ⟨((⟨0, 0, 0⟩ : Health), 8), rfl, hp193, hM201.below⟩
    · -- no
      have hp202 := hp176.2 hb192; clear hp176
      refine wp_skip ?_
      refine thn ?_
      have hF203 : Fr 69 [] [⟨1, [], .int .i64 u1⟩, ⟨2, [], .pointer (some ⟨b2, 0, none⟩)⟩, ⟨4, [], .pointer (some ⟨b7, 0, none⟩)⟩] a189 := hF190.region (by kernel_rfl) (by kernel_rfl); clear hF190
      refine sqR ?_
      refine st hF203 (.agg #[.int .i64 (-1), .int .i64 0]) (nog rfl _) rfl (by kernel_rfl) (p0 hF203 (by kernel_rfl)) ?_; intro a204 hF205; clear hF203
      refine st hF205 (.agg #[.int .i64 0, .int .i64 (-1)]) (nog rfl _) rfl (by kernel_rfl) (p0 hF205 (by kernel_rfl)) ?_; intro a206 hF207; clear hF205
      refine st hF207 (.agg #[.int .i64 8, .int .i64 0]) (nog rfl _) rfl (by kernel_rfl) (p0 hF207 (by kernel_rfl)) ?_; intro a208 hF209; clear hF207
      refine st hF209 (.agg #[.int .i64 0, .int .i64 1]) (nog rfl _) rfl (by kernel_rfl) (p0 hF209 (by kernel_rfl)) ?_; intro a210 hF211; clear hF209
      refine st hF211 (.agg #[.int .i64 0, .int .i64 8]) (nog rfl _) rfl (by kernel_rfl) (p0 hF211 (by kernel_rfl)) ?_; intro a212 hF213; clear hF211
      refine st hF213 (.agg #[.int .i64 0, .int .i64 0]) (nog rfl _) rfl (by kernel_rfl) (p0 hF213 (by kernel_rfl)) ?_; intro a214 hF215; clear hF213
      refine st hF215 (.agg #[.int .i64 0, .int .i64 0, .int .i64 (-1), .int .i64 0, .int .i64 0, .int .i64 (-1), .int .i64 8, .int .i64 0, .int .i64 0, .int .i64 1, .int .i64 0, .int .i64 8, .int .i64 0, .int .i64 0]) (nog rfl _) rfl (by kernel_rfl) (p0 hF215 (by kernel_rfl)) ?_; intro a216 hF217; clear hF215
      refine st hF217 (.int .i64 u1) (nog rfl _) rfl (by kernel_rfl) (p0 hF217 (by kernel_rfl)) ?_; intro a218 hF219; clear hF217
      have hc220 := hp202.1; have hp221 := hp202.2; clear hp202
      have hix : ∀ x : Int, 0 ≤ x ∧ x < 7 → x = 0 ∨ x = 1 ∨ x = 2 ∨ x = 3 ∨ x = 4 ∨ x = 5 ∨ x = 6 := by intro x hx; omega
      refine st hF219 (.agg #[.int .i64 (([0, -1, 0, 8, 0, 0, 0] : List Int).getD u1.toNat 0), .int .i64 (([0, 0, -1, 0, 1, 8, 0] : List Int).getD u1.toNat 0)]) (nog rfl _) rfl (by kernel_rfl) ((by generalize u1 = ix at *; rcases hix _ hc220 with rfl | rfl | rfl | rfl | rfl | rfl | rfl <;> exact p0 hF219 (by kernel_rfl))) ?_; intro a222 hF223; clear hF219
      refine sn hF223 hM191 (fun b => .pointer (some ⟨b, 0, none⟩)) [.int .i64 0, .int .i64 0] 46 (nog rfl _) rfl (by kernel_rfl) (by kernel_rfl) ?_; intro b224 a225 wd227 hF226 hM228; clear hF223 hM191
      refine sr hF226 hM228 0 [.int .i64 (([0, -1, 0, 8, 0, 0, 0] : List Int).getD u1.toNat 0), .int .i64 (([0, 0, -1, 0, 1, 8, 0] : List Int).getD u1.toNat 0)] (b := b224) (off := 0) (cs := [.int .i64 0, .int .i64 0]) (ty := 46) (u := .agg #[.int .i64 (([0, -1, 0, 8, 0, 0, 0] : List Int).getD u1.toNat 0), .int .i64 (([0, 0, -1, 0, 1, 8, 0] : List Int).getD u1.toNat 0)]) (nog rfl _) rfl rfl (by kernel_rfl) (by kernel_rfl) (by kernel_rfl) (by kernel_rfl) (by kernel_rfl) (by kernel_rfl) (by kernel_rfl) ?_; intro wd229 hM230; clear hM228
      have hM231 : Mem w.heap.size [] w Z [.row b224 [.int .i64 (([0, -1, 0, 8, 0, 0, 0] : List Int).getD u1.toNat 0), .int .i64 (([0, 0, -1, 0, 1, 8, 0] : List Int).getD u1.toNat 0)] 46, .row b7 [.int .i64 0, .int .i64 0, .int .i64 0] 28, .row b2 [.int .i64 u0.Sent, .int .i64 u0.Got, .int .i64 u0.Rest] 28] Z wd229 := hM230; clear hM230
      refine nlT ?_
      refine wp_seq ?_
      have hF232 : Fr 69 [] [⟨1, [], .int .i64 u1⟩, ⟨2, [], .pointer (some ⟨b2, 0, none⟩)⟩, ⟨4, [], .pointer (some ⟨b7, 0, none⟩)⟩, ⟨6, [], .pointer (some ⟨b224, 0, none⟩)⟩] a225 := hF226.region (by kernel_rfl) (by kernel_rfl); clear hF226
      refine sqR ?_
      refine st hF232 (.int .i64 u1) (nog rfl _) rfl (by kernel_rfl) (p0 hF232 (by kernel_rfl)) ?_; intro a233 hF234; clear hF232
      refine st hF234 (.bool (u1 == 2)) (nog rfl _) rfl (by kernel_rfl) (p0 hF234 (by kernel_rfl)) ?_; intro a235 hF236; clear hF234
      have hM237 : Mem w.heap.size [] w Z [.row b224 [.int .i64 (([0, -1, 0, 8, 0, 0, 0] : List Int).getD u1.toNat 0), .int .i64 (([0, 0, -1, 0, 1, 8, 0] : List Int).getD u1.toNat 0)] 46, .row b7 [.int .i64 0, .int .i64 0, .int .i64 0] 28, .row b2 [.int .i64 u0.Sent, .int .i64 u0.Got, .int .i64 u0.Rest] 28] Z wd229 := hM231; clear hM231
      refine nlT ?_
      refine cd hF236 (t := u1 == 2) (by kernel_rfl) (fun hb238 => ?_) (fun hb238 => ?_)
      · -- yes
        have hp239 := hp221.1 hb238; clear hp221
        have hF240 : Fr 69 [] [⟨2, [], .pointer (some ⟨b2, 0, none⟩)⟩, ⟨4, [], .pointer (some ⟨b7, 0, none⟩)⟩, ⟨6, [], .pointer (some ⟨b224, 0, none⟩)⟩] a235 := hF236.region (by kernel_rfl) (by kernel_rfl); clear hF236
        refine wp_region_lit ?_
        refine st hF240 (.pointer (some ⟨b2, 1, none⟩)) (nog rfl _) rfl (by kernel_rfl) (p0 hF240 (by kernel_rfl)) ?_; intro a241 hF242; clear hF240
        refine st hF242 (.int .i64 u0.Got) (nog rfl _) rfl (by kernel_rfl) (ld hF242 hM237 2 (g := []) (b := b2) (off := 1) (cs := [.int .i64 u0.Sent, .int .i64 u0.Got, .int .i64 u0.Rest]) (ty := 28) rfl (by kernel_rfl) (by kernel_rfl) (by kernel_rfl) (by kernel_rfl) rfl) ?_; intro a243 hF244; clear hF242
        refine st hF244 (.int .i64 (min u0.Got 127)) (nog rfl _) rfl (by kernel_rfl) (re_ (p0 hF244 (r := .ok (.value (.int .i64 (if 127 < u0.Got then 127 else u0.Got))) wd229) (by kernel_rfl)) (by rw [imin])) ?_; intro a245 hF246; clear hF244
        refine st hF246 (.pointer (some ⟨b2, 1, none⟩)) (nog rfl _) rfl (by kernel_rfl) (p0 hF246 (by kernel_rfl)) ?_; intro a247 hF248; clear hF246
        refine sr hF248 hM237 2 [.int .i64 u0.Sent, .int .i64 (min u0.Got 127), .int .i64 u0.Rest] (b := b2) (off := 1) (cs := [.int .i64 u0.Sent, .int .i64 u0.Got, .int .i64 u0.Rest]) (ty := 28) (u := .int .i64 (min u0.Got 127)) (nog rfl _) rfl rfl (by kernel_rfl) (by kernel_rfl) (by kernel_rfl) (by kernel_rfl) (by kernel_rfl) (by kernel_rfl) (by kernel_rfl) ?_; intro wd249 hM250; clear hM237
        have hM251 : Mem w.heap.size [] w Z [.row b224 [.int .i64 (([0, -1, 0, 8, 0, 0, 0] : List Int).getD u1.toNat 0), .int .i64 (([0, 0, -1, 0, 1, 8, 0] : List Int).getD u1.toNat 0)] 46, .row b7 [.int .i64 0, .int .i64 0, .int .i64 0] 28, .row b2 [.int .i64 u0.Sent, .int .i64 (min u0.Got 127), .int .i64 u0.Rest] 28] Z wd249 := hM250; clear hM250
        refine nl ?_
        refine thn ?_
        have hF252 : Fr 69 [] [⟨2, [], .pointer (some ⟨b2, 0, none⟩)⟩, ⟨4, [], .pointer (some ⟨b7, 0, none⟩)⟩, ⟨6, [], .pointer (some ⟨b224, 0, none⟩)⟩] a247 := hF248.region (by kernel_rfl) (by kernel_rfl); clear hF248
        refine sqR ?_
        refine st hF252 (.pointer (some ⟨b2, 0, none⟩)) (nog rfl _) rfl (by kernel_rfl) (p0 hF252 (by kernel_rfl)) ?_; intro a253 hF254; clear hF252
        refine st hF254 (.int .i64 u0.Sent) (nog rfl _) rfl (by kernel_rfl) (ld hF254 hM251 2 (g := []) (b := b2) (off := 0) (cs := [.int .i64 u0.Sent, .int .i64 (min u0.Got 127), .int .i64 u0.Rest]) (ty := 28) rfl (by kernel_rfl) (by kernel_rfl) (by kernel_rfl) (by kernel_rfl) rfl) ?_; intro a255 hF256; clear hF254
        refine st hF256 (.pointer (some ⟨b224, 0, none⟩)) (nog rfl _) rfl (by kernel_rfl) (p0 hF256 (by kernel_rfl)) ?_; intro a257 hF258; clear hF256
        refine st hF258 (.int .i64 (([0, -1, 0, 8, 0, 0, 0] : List Int).getD u1.toNat 0)) (nog rfl _) rfl (by kernel_rfl) (ld hF258 hM251 0 (g := []) (b := b224) (off := 0) (cs := [.int .i64 (([0, -1, 0, 8, 0, 0, 0] : List Int).getD u1.toNat 0), .int .i64 (([0, 0, -1, 0, 1, 8, 0] : List Int).getD u1.toNat 0)]) (ty := 46) rfl (by kernel_rfl) (by kernel_rfl) (by kernel_rfl) (by kernel_rfl) rfl) ?_; intro a259 hF260; clear hF258
        refine st hF260 (.int .i64 (w64 (u0.Sent + (([0, -1, 0, 8, 0, 0, 0] : List Int).getD u1.toNat 0)))) (nog rfl _) rfl (by kernel_rfl) (p0 hF260 (by kernel_rfl)) ?_; intro a261 hF262; clear hF260
        refine st hF262 (.int .i64 (max (w64 (u0.Sent + (([0, -1, 0, 8, 0, 0, 0] : List Int).getD u1.toNat 0))) 0)) (nog rfl _) rfl (by kernel_rfl) (re_ (p0 hF262 (r := .ok (.value (.int .i64 (if (w64 (u0.Sent + (([0, -1, 0, 8, 0, 0, 0] : List Int).getD u1.toNat 0))) < 0 then 0 else (w64 (u0.Sent + (([0, -1, 0, 8, 0, 0, 0] : List Int).getD u1.toNat 0)))))) wd249) (by kernel_rfl)) (by rw [imax])) ?_; intro a263 hF264; clear hF262
        refine st hF264 (.int .i64 (min (max (w64 (u0.Sent + (([0, -1, 0, 8, 0, 0, 0] : List Int).getD u1.toNat 0))) 0) 256)) (nog rfl _) rfl (by kernel_rfl) (re_ (p0 hF264 (r := .ok (.value (.int .i64 (if 256 < (max (w64 (u0.Sent + (([0, -1, 0, 8, 0, 0, 0] : List Int).getD u1.toNat 0))) 0) then 256 else (max (w64 (u0.Sent + (([0, -1, 0, 8, 0, 0, 0] : List Int).getD u1.toNat 0))) 0)))) wd249) (by kernel_rfl)) (by rw [imin])) ?_; intro a265 hF266; clear hF264
        refine st hF266 (.pointer (some ⟨b2, 0, none⟩)) (nog rfl _) rfl (by kernel_rfl) (p0 hF266 (by kernel_rfl)) ?_; intro a267 hF268; clear hF266
        refine sr hF268 hM251 2 [.int .i64 (min (max (w64 (u0.Sent + (([0, -1, 0, 8, 0, 0, 0] : List Int).getD u1.toNat 0))) 0) 256), .int .i64 (min u0.Got 127), .int .i64 u0.Rest] (b := b2) (off := 0) (cs := [.int .i64 u0.Sent, .int .i64 (min u0.Got 127), .int .i64 u0.Rest]) (ty := 28) (u := .int .i64 (min (max (w64 (u0.Sent + (([0, -1, 0, 8, 0, 0, 0] : List Int).getD u1.toNat 0))) 0) 256)) (nog rfl _) rfl rfl (by kernel_rfl) (by kernel_rfl) (by kernel_rfl) (by kernel_rfl) (by kernel_rfl) (by kernel_rfl) (by kernel_rfl) ?_; intro wd269 hM270; clear hM251
        have hM271 : Mem w.heap.size [] w Z [.row b224 [.int .i64 (([0, -1, 0, 8, 0, 0, 0] : List Int).getD u1.toNat 0), .int .i64 (([0, 0, -1, 0, 1, 8, 0] : List Int).getD u1.toNat 0)] 46, .row b7 [.int .i64 0, .int .i64 0, .int .i64 0] 28, .row b2 [.int .i64 (min (max (w64 (u0.Sent + (([0, -1, 0, 8, 0, 0, 0] : List Int).getD u1.toNat 0))) 0) 256), .int .i64 (min u0.Got 127), .int .i64 u0.Rest] 28] Z wd269 := hM270; clear hM270
        refine nlT ?_
        have hF272 : Fr 69 [] [⟨2, [], .pointer (some ⟨b2, 0, none⟩)⟩, ⟨4, [], .pointer (some ⟨b7, 0, none⟩)⟩, ⟨6, [], .pointer (some ⟨b224, 0, none⟩)⟩] a267 := hF268.region (by kernel_rfl) (by kernel_rfl); clear hF268
        refine sqR ?_
        refine st hF272 (.pointer (some ⟨b2, 1, none⟩)) (nog rfl _) rfl (by kernel_rfl) (p0 hF272 (by kernel_rfl)) ?_; intro a273 hF274; clear hF272
        refine st hF274 (.int .i64 (min u0.Got 127)) (nog rfl _) rfl (by kernel_rfl) (ld hF274 hM271 2 (g := []) (b := b2) (off := 1) (cs := [.int .i64 (min (max (w64 (u0.Sent + (([0, -1, 0, 8, 0, 0, 0] : List Int).getD u1.toNat 0))) 0) 256), .int .i64 (min u0.Got 127), .int .i64 u0.Rest]) (ty := 28) rfl (by kernel_rfl) (by kernel_rfl) (by kernel_rfl) (by kernel_rfl) rfl) ?_; intro a275 hF276; clear hF274
        refine st hF276 (.pointer (some ⟨b224, 1, none⟩)) (nog rfl _) rfl (by kernel_rfl) (p0 hF276 (by kernel_rfl)) ?_; intro a277 hF278; clear hF276
        refine st hF278 (.int .i64 (([0, 0, -1, 0, 1, 8, 0] : List Int).getD u1.toNat 0)) (nog rfl _) rfl (by kernel_rfl) (ld hF278 hM271 0 (g := []) (b := b224) (off := 1) (cs := [.int .i64 (([0, -1, 0, 8, 0, 0, 0] : List Int).getD u1.toNat 0), .int .i64 (([0, 0, -1, 0, 1, 8, 0] : List Int).getD u1.toNat 0)]) (ty := 46) rfl (by kernel_rfl) (by kernel_rfl) (by kernel_rfl) (by kernel_rfl) rfl) ?_; intro a279 hF280; clear hF278
        refine st hF280 (.int .i64 (w64 ((min u0.Got 127) + (([0, 0, -1, 0, 1, 8, 0] : List Int).getD u1.toNat 0)))) (nog rfl _) rfl (by kernel_rfl) (p0 hF280 (by kernel_rfl)) ?_; intro a281 hF282; clear hF280
        refine st hF282 (.int .i64 (max (w64 ((min u0.Got 127) + (([0, 0, -1, 0, 1, 8, 0] : List Int).getD u1.toNat 0))) 0)) (nog rfl _) rfl (by kernel_rfl) (re_ (p0 hF282 (r := .ok (.value (.int .i64 (if (w64 ((min u0.Got 127) + (([0, 0, -1, 0, 1, 8, 0] : List Int).getD u1.toNat 0))) < 0 then 0 else (w64 ((min u0.Got 127) + (([0, 0, -1, 0, 1, 8, 0] : List Int).getD u1.toNat 0)))))) wd269) (by kernel_rfl)) (by rw [imax])) ?_; intro a283 hF284; clear hF282
        refine st hF284 (.int .i64 (min (max (w64 ((min u0.Got 127) + (([0, 0, -1, 0, 1, 8, 0] : List Int).getD u1.toNat 0))) 0) 255)) (nog rfl _) rfl (by kernel_rfl) (re_ (p0 hF284 (r := .ok (.value (.int .i64 (if 255 < (max (w64 ((min u0.Got 127) + (([0, 0, -1, 0, 1, 8, 0] : List Int).getD u1.toNat 0))) 0) then 255 else (max (w64 ((min u0.Got 127) + (([0, 0, -1, 0, 1, 8, 0] : List Int).getD u1.toNat 0))) 0)))) wd269) (by kernel_rfl)) (by rw [imin])) ?_; intro a285 hF286; clear hF284
        refine st hF286 (.pointer (some ⟨b2, 1, none⟩)) (nog rfl _) rfl (by kernel_rfl) (p0 hF286 (by kernel_rfl)) ?_; intro a287 hF288; clear hF286
        refine sr hF288 hM271 2 [.int .i64 (min (max (w64 (u0.Sent + (([0, -1, 0, 8, 0, 0, 0] : List Int).getD u1.toNat 0))) 0) 256), .int .i64 (min (max (w64 ((min u0.Got 127) + (([0, 0, -1, 0, 1, 8, 0] : List Int).getD u1.toNat 0))) 0) 255), .int .i64 u0.Rest] (b := b2) (off := 1) (cs := [.int .i64 (min (max (w64 (u0.Sent + (([0, -1, 0, 8, 0, 0, 0] : List Int).getD u1.toNat 0))) 0) 256), .int .i64 (min u0.Got 127), .int .i64 u0.Rest]) (ty := 28) (u := .int .i64 (min (max (w64 ((min u0.Got 127) + (([0, 0, -1, 0, 1, 8, 0] : List Int).getD u1.toNat 0))) 0) 255)) (nog rfl _) rfl rfl (by kernel_rfl) (by kernel_rfl) (by kernel_rfl) (by kernel_rfl) (by kernel_rfl) (by kernel_rfl) (by kernel_rfl) ?_; intro wd289 hM290; clear hM271
        have hM291 : Mem w.heap.size [] w Z [.row b224 [.int .i64 (([0, -1, 0, 8, 0, 0, 0] : List Int).getD u1.toNat 0), .int .i64 (([0, 0, -1, 0, 1, 8, 0] : List Int).getD u1.toNat 0)] 46, .row b7 [.int .i64 0, .int .i64 0, .int .i64 0] 28, .row b2 [.int .i64 (min (max (w64 (u0.Sent + (([0, -1, 0, 8, 0, 0, 0] : List Int).getD u1.toNat 0))) 0) 256), .int .i64 (min (max (w64 ((min u0.Got 127) + (([0, 0, -1, 0, 1, 8, 0] : List Int).getD u1.toNat 0))) 0) 255), .int .i64 u0.Rest] 28] Z wd289 := hM290; clear hM290
        refine nlT ?_
        have hF292 : Fr 69 [] [⟨2, [], .pointer (some ⟨b2, 0, none⟩)⟩, ⟨4, [], .pointer (some ⟨b7, 0, none⟩)⟩] a287 := hF288.region (by kernel_rfl) (by kernel_rfl); clear hF288
        refine sqR ?_
        refine st hF292 (.agg #[.int .i64 (min (max (w64 (u0.Sent + (([0, -1, 0, 8, 0, 0, 0] : List Int).getD u1.toNat 0))) 0) 256), .int .i64 (min (max (w64 ((min u0.Got 127) + (([0, 0, -1, 0, 1, 8, 0] : List Int).getD u1.toNat 0))) 0) 255), .int .i64 u0.Rest]) (nog rfl _) rfl (by kernel_rfl) (lda hF292 hM291 2 (g := []) (b := b2) (off := 0) (k := 3) (cs := [.int .i64 (min (max (w64 (u0.Sent + (([0, -1, 0, 8, 0, 0, 0] : List Int).getD u1.toNat 0))) 0) 256), .int .i64 (min (max (w64 ((min u0.Got 127) + (([0, 0, -1, 0, 1, 8, 0] : List Int).getD u1.toNat 0))) 0) 255), .int .i64 u0.Rest]) (vs := [.int .i64 (min (max (w64 (u0.Sent + (([0, -1, 0, 8, 0, 0, 0] : List Int).getD u1.toNat 0))) 0) 256), .int .i64 (min (max (w64 ((min u0.Got 127) + (([0, 0, -1, 0, 1, 8, 0] : List Int).getD u1.toNat 0))) 0) 255), .int .i64 u0.Rest]) (ty := 28) rfl (by kernel_rfl) (by kernel_rfl) (by kernel_rfl) (by kernel_rfl) (by kernel_rfl) rfl) ?_; intro a293 hF294; clear hF292
        refine sr hF294 hM291 1 [.int .i64 (min (max (w64 (u0.Sent + (([0, -1, 0, 8, 0, 0, 0] : List Int).getD u1.toNat 0))) 0) 256), .int .i64 (min (max (w64 ((min u0.Got 127) + (([0, 0, -1, 0, 1, 8, 0] : List Int).getD u1.toNat 0))) 0) 255), .int .i64 u0.Rest] (b := b7) (off := 0) (cs := [.int .i64 0, .int .i64 0, .int .i64 0]) (ty := 28) (u := .agg #[.int .i64 (min (max (w64 (u0.Sent + (([0, -1, 0, 8, 0, 0, 0] : List Int).getD u1.toNat 0))) 0) 256), .int .i64 (min (max (w64 ((min u0.Got 127) + (([0, 0, -1, 0, 1, 8, 0] : List Int).getD u1.toNat 0))) 0) 255), .int .i64 u0.Rest]) (nog rfl _) rfl rfl (by kernel_rfl) (by kernel_rfl) (by kernel_rfl) (by kernel_rfl) (by kernel_rfl) (by kernel_rfl) (by kernel_rfl) ?_; intro wd295 hM296; clear hM291
        refine st hF294 (.int .i64 0) (nog rfl _) rfl (by kernel_rfl) (p0 hF294 (by kernel_rfl)) ?_; intro a297 hF298; clear hF294
        have hM299 : Mem w.heap.size [] w Z [.row b224 [.int .i64 (([0, -1, 0, 8, 0, 0, 0] : List Int).getD u1.toNat 0), .int .i64 (([0, 0, -1, 0, 1, 8, 0] : List Int).getD u1.toNat 0)] 46, .row b7 [.int .i64 (min (max (w64 (u0.Sent + (([0, -1, 0, 8, 0, 0, 0] : List Int).getD u1.toNat 0))) 0) 256), .int .i64 (min (max (w64 ((min u0.Got 127) + (([0, 0, -1, 0, 1, 8, 0] : List Int).getD u1.toNat 0))) 0) 255), .int .i64 u0.Rest] 28, .row b2 [.int .i64 (min (max (w64 (u0.Sent + (([0, -1, 0, 8, 0, 0, 0] : List Int).getD u1.toNat 0))) 0) 256), .int .i64 (min (max (w64 ((min u0.Got 127) + (([0, 0, -1, 0, 1, 8, 0] : List Int).getD u1.toNat 0))) 0) 255), .int .i64 u0.Rest] 28] Z wd295 := hM296; clear hM296
        refine nlT ?_
        refine wp_ret ?_
        refine rt (fn := Try.f17) (v := .tuple #[.agg #[.int .i64 (min (max (w64 (u0.Sent + (([0, -1, 0, 8, 0, 0, 0] : List Int).getD u1.toNat 0))) 0) 256), .int .i64 (min (max (w64 ((min u0.Got 127) + (([0, 0, -1, 0, 1, 8, 0] : List Int).getD u1.toNat 0))) 0) 255), .int .i64 u0.Rest], .int .i64 0]) hF298 (re2c hF298 (fn := Try.f17) rfl (ad := ⟨b7, 0, none⟩) (by kernel_rfl) (loadVar_run hM299 1 (b := b7) (k := 3) (vs := [.int .i64 (min (max (w64 (u0.Sent + (([0, -1, 0, 8, 0, 0, 0] : List Int).getD u1.toNat 0))) 0) 256), .int .i64 (min (max (w64 ((min u0.Got 127) + (([0, 0, -1, 0, 1, 8, 0] : List Int).getD u1.toNat 0))) 0) 255), .int .i64 u0.Rest]) (ty := 28) rfl (by kernel_rfl) (by kernel_rfl)) (by kernel_rfl)) ?_
        exact ⟨((⟨min (max (w64 (u0.Sent + (([0, -1, 0, 8, 0, 0, 0] : List Int).getD u1.toNat 0))) 0) 256, min (max (w64 ((min u0.Got 127) + (([0, 0, -1, 0, 1, 8, 0] : List Int).getD u1.toNat 0))) 0) 255, u0.Rest⟩ : Health), 0), rfl, hp239, hM299.below⟩
      · -- no
        have hp300 := hp221.2 hb238; clear hp221
        refine wp_skip ?_
        refine thn ?_
        have hF301 : Fr 69 [] [⟨2, [], .pointer (some ⟨b2, 0, none⟩)⟩, ⟨4, [], .pointer (some ⟨b7, 0, none⟩)⟩, ⟨6, [], .pointer (some ⟨b224, 0, none⟩)⟩] a235 := hF236.region (by kernel_rfl) (by kernel_rfl); clear hF236
        refine sqR ?_
        refine st hF301 (.pointer (some ⟨b2, 0, none⟩)) (nog rfl _) rfl (by kernel_rfl) (p0 hF301 (by kernel_rfl)) ?_; intro a302 hF303; clear hF301
        refine st hF303 (.int .i64 u0.Sent) (nog rfl _) rfl (by kernel_rfl) (ld hF303 hM237 2 (g := []) (b := b2) (off := 0) (cs := [.int .i64 u0.Sent, .int .i64 u0.Got, .int .i64 u0.Rest]) (ty := 28) rfl (by kernel_rfl) (by kernel_rfl) (by kernel_rfl) (by kernel_rfl) rfl) ?_; intro a304 hF305; clear hF303
        refine st hF305 (.pointer (some ⟨b224, 0, none⟩)) (nog rfl _) rfl (by kernel_rfl) (p0 hF305 (by kernel_rfl)) ?_; intro a306 hF307; clear hF305
        refine st hF307 (.int .i64 (([0, -1, 0, 8, 0, 0, 0] : List Int).getD u1.toNat 0)) (nog rfl _) rfl (by kernel_rfl) (ld hF307 hM237 0 (g := []) (b := b224) (off := 0) (cs := [.int .i64 (([0, -1, 0, 8, 0, 0, 0] : List Int).getD u1.toNat 0), .int .i64 (([0, 0, -1, 0, 1, 8, 0] : List Int).getD u1.toNat 0)]) (ty := 46) rfl (by kernel_rfl) (by kernel_rfl) (by kernel_rfl) (by kernel_rfl) rfl) ?_; intro a308 hF309; clear hF307
        refine st hF309 (.int .i64 (w64 (u0.Sent + (([0, -1, 0, 8, 0, 0, 0] : List Int).getD u1.toNat 0)))) (nog rfl _) rfl (by kernel_rfl) (p0 hF309 (by kernel_rfl)) ?_; intro a310 hF311; clear hF309
        refine st hF311 (.int .i64 (max (w64 (u0.Sent + (([0, -1, 0, 8, 0, 0, 0] : List Int).getD u1.toNat 0))) 0)) (nog rfl _) rfl (by kernel_rfl) (re_ (p0 hF311 (r := .ok (.value (.int .i64 (if (w64 (u0.Sent + (([0, -1, 0, 8, 0, 0, 0] : List Int).getD u1.toNat 0))) < 0 then 0 else (w64 (u0.Sent + (([0, -1, 0, 8, 0, 0, 0] : List Int).getD u1.toNat 0)))))) wd229) (by kernel_rfl)) (by rw [imax])) ?_; intro a312 hF313; clear hF311
        refine st hF313 (.int .i64 (min (max (w64 (u0.Sent + (([0, -1, 0, 8, 0, 0, 0] : List Int).getD u1.toNat 0))) 0) 256)) (nog rfl _) rfl (by kernel_rfl) (re_ (p0 hF313 (r := .ok (.value (.int .i64 (if 256 < (max (w64 (u0.Sent + (([0, -1, 0, 8, 0, 0, 0] : List Int).getD u1.toNat 0))) 0) then 256 else (max (w64 (u0.Sent + (([0, -1, 0, 8, 0, 0, 0] : List Int).getD u1.toNat 0))) 0)))) wd229) (by kernel_rfl)) (by rw [imin])) ?_; intro a314 hF315; clear hF313
        refine st hF315 (.pointer (some ⟨b2, 0, none⟩)) (nog rfl _) rfl (by kernel_rfl) (p0 hF315 (by kernel_rfl)) ?_; intro a316 hF317; clear hF315
        refine sr hF317 hM237 2 [.int .i64 (min (max (w64 (u0.Sent + (([0, -1, 0, 8, 0, 0, 0] : List Int).getD u1.toNat 0))) 0) 256), .int .i64 u0.Got, .int .i64 u0.Rest] (b := b2) (off := 0) (cs := [.int .i64 u0.Sent, .int .i64 u0.Got, .int .i64 u0.Rest]) (ty := 28) (u := .int .i64 (min (max (w64 (u0.Sent + (([0, -1, 0, 8, 0, 0, 0] : List Int).getD u1.toNat 0))) 0) 256)) (nog rfl _) rfl rfl (by kernel_rfl) (by kernel_rfl) (by kernel_rfl) (by kernel_rfl) (by kernel_rfl) (by kernel_rfl) (by kernel_rfl) ?_; intro wd318 hM319; clear hM237
        have hM320 : Mem w.heap.size [] w Z [.row b224 [.int .i64 (([0, -1, 0, 8, 0, 0, 0] : List Int).getD u1.toNat 0), .int .i64 (([0, 0, -1, 0, 1, 8, 0] : List Int).getD u1.toNat 0)] 46, .row b7 [.int .i64 0, .int .i64 0, .int .i64 0] 28, .row b2 [.int .i64 (min (max (w64 (u0.Sent + (([0, -1, 0, 8, 0, 0, 0] : List Int).getD u1.toNat 0))) 0) 256), .int .i64 u0.Got, .int .i64 u0.Rest] 28] Z wd318 := hM319; clear hM319
        refine nlT ?_
        have hF321 : Fr 69 [] [⟨2, [], .pointer (some ⟨b2, 0, none⟩)⟩, ⟨4, [], .pointer (some ⟨b7, 0, none⟩)⟩, ⟨6, [], .pointer (some ⟨b224, 0, none⟩)⟩] a316 := hF317.region (by kernel_rfl) (by kernel_rfl); clear hF317
        refine sqR ?_
        refine st hF321 (.pointer (some ⟨b2, 1, none⟩)) (nog rfl _) rfl (by kernel_rfl) (p0 hF321 (by kernel_rfl)) ?_; intro a322 hF323; clear hF321
        refine st hF323 (.int .i64 u0.Got) (nog rfl _) rfl (by kernel_rfl) (ld hF323 hM320 2 (g := []) (b := b2) (off := 1) (cs := [.int .i64 (min (max (w64 (u0.Sent + (([0, -1, 0, 8, 0, 0, 0] : List Int).getD u1.toNat 0))) 0) 256), .int .i64 u0.Got, .int .i64 u0.Rest]) (ty := 28) rfl (by kernel_rfl) (by kernel_rfl) (by kernel_rfl) (by kernel_rfl) rfl) ?_; intro a324 hF325; clear hF323
        refine st hF325 (.pointer (some ⟨b224, 1, none⟩)) (nog rfl _) rfl (by kernel_rfl) (p0 hF325 (by kernel_rfl)) ?_; intro a326 hF327; clear hF325
        refine st hF327 (.int .i64 (([0, 0, -1, 0, 1, 8, 0] : List Int).getD u1.toNat 0)) (nog rfl _) rfl (by kernel_rfl) (ld hF327 hM320 0 (g := []) (b := b224) (off := 1) (cs := [.int .i64 (([0, -1, 0, 8, 0, 0, 0] : List Int).getD u1.toNat 0), .int .i64 (([0, 0, -1, 0, 1, 8, 0] : List Int).getD u1.toNat 0)]) (ty := 46) rfl (by kernel_rfl) (by kernel_rfl) (by kernel_rfl) (by kernel_rfl) rfl) ?_; intro a328 hF329; clear hF327
        refine st hF329 (.int .i64 (w64 (u0.Got + (([0, 0, -1, 0, 1, 8, 0] : List Int).getD u1.toNat 0)))) (nog rfl _) rfl (by kernel_rfl) (p0 hF329 (by kernel_rfl)) ?_; intro a330 hF331; clear hF329
        refine st hF331 (.int .i64 (max (w64 (u0.Got + (([0, 0, -1, 0, 1, 8, 0] : List Int).getD u1.toNat 0))) 0)) (nog rfl _) rfl (by kernel_rfl) (re_ (p0 hF331 (r := .ok (.value (.int .i64 (if (w64 (u0.Got + (([0, 0, -1, 0, 1, 8, 0] : List Int).getD u1.toNat 0))) < 0 then 0 else (w64 (u0.Got + (([0, 0, -1, 0, 1, 8, 0] : List Int).getD u1.toNat 0)))))) wd318) (by kernel_rfl)) (by rw [imax])) ?_; intro a332 hF333; clear hF331
        refine st hF333 (.int .i64 (min (max (w64 (u0.Got + (([0, 0, -1, 0, 1, 8, 0] : List Int).getD u1.toNat 0))) 0) 255)) (nog rfl _) rfl (by kernel_rfl) (re_ (p0 hF333 (r := .ok (.value (.int .i64 (if 255 < (max (w64 (u0.Got + (([0, 0, -1, 0, 1, 8, 0] : List Int).getD u1.toNat 0))) 0) then 255 else (max (w64 (u0.Got + (([0, 0, -1, 0, 1, 8, 0] : List Int).getD u1.toNat 0))) 0)))) wd318) (by kernel_rfl)) (by rw [imin])) ?_; intro a334 hF335; clear hF333
        refine st hF335 (.pointer (some ⟨b2, 1, none⟩)) (nog rfl _) rfl (by kernel_rfl) (p0 hF335 (by kernel_rfl)) ?_; intro a336 hF337; clear hF335
        refine sr hF337 hM320 2 [.int .i64 (min (max (w64 (u0.Sent + (([0, -1, 0, 8, 0, 0, 0] : List Int).getD u1.toNat 0))) 0) 256), .int .i64 (min (max (w64 (u0.Got + (([0, 0, -1, 0, 1, 8, 0] : List Int).getD u1.toNat 0))) 0) 255), .int .i64 u0.Rest] (b := b2) (off := 1) (cs := [.int .i64 (min (max (w64 (u0.Sent + (([0, -1, 0, 8, 0, 0, 0] : List Int).getD u1.toNat 0))) 0) 256), .int .i64 u0.Got, .int .i64 u0.Rest]) (ty := 28) (u := .int .i64 (min (max (w64 (u0.Got + (([0, 0, -1, 0, 1, 8, 0] : List Int).getD u1.toNat 0))) 0) 255)) (nog rfl _) rfl rfl (by kernel_rfl) (by kernel_rfl) (by kernel_rfl) (by kernel_rfl) (by kernel_rfl) (by kernel_rfl) (by kernel_rfl) ?_; intro wd338 hM339; clear hM320
        have hM340 : Mem w.heap.size [] w Z [.row b224 [.int .i64 (([0, -1, 0, 8, 0, 0, 0] : List Int).getD u1.toNat 0), .int .i64 (([0, 0, -1, 0, 1, 8, 0] : List Int).getD u1.toNat 0)] 46, .row b7 [.int .i64 0, .int .i64 0, .int .i64 0] 28, .row b2 [.int .i64 (min (max (w64 (u0.Sent + (([0, -1, 0, 8, 0, 0, 0] : List Int).getD u1.toNat 0))) 0) 256), .int .i64 (min (max (w64 (u0.Got + (([0, 0, -1, 0, 1, 8, 0] : List Int).getD u1.toNat 0))) 0) 255), .int .i64 u0.Rest] 28] Z wd338 := hM339; clear hM339
        refine nlT ?_
        have hF341 : Fr 69 [] [⟨2, [], .pointer (some ⟨b2, 0, none⟩)⟩, ⟨4, [], .pointer (some ⟨b7, 0, none⟩)⟩] a336 := hF337.region (by kernel_rfl) (by kernel_rfl); clear hF337
        refine sqR ?_
        refine st hF341 (.agg #[.int .i64 (min (max (w64 (u0.Sent + (([0, -1, 0, 8, 0, 0, 0] : List Int).getD u1.toNat 0))) 0) 256), .int .i64 (min (max (w64 (u0.Got + (([0, 0, -1, 0, 1, 8, 0] : List Int).getD u1.toNat 0))) 0) 255), .int .i64 u0.Rest]) (nog rfl _) rfl (by kernel_rfl) (lda hF341 hM340 2 (g := []) (b := b2) (off := 0) (k := 3) (cs := [.int .i64 (min (max (w64 (u0.Sent + (([0, -1, 0, 8, 0, 0, 0] : List Int).getD u1.toNat 0))) 0) 256), .int .i64 (min (max (w64 (u0.Got + (([0, 0, -1, 0, 1, 8, 0] : List Int).getD u1.toNat 0))) 0) 255), .int .i64 u0.Rest]) (vs := [.int .i64 (min (max (w64 (u0.Sent + (([0, -1, 0, 8, 0, 0, 0] : List Int).getD u1.toNat 0))) 0) 256), .int .i64 (min (max (w64 (u0.Got + (([0, 0, -1, 0, 1, 8, 0] : List Int).getD u1.toNat 0))) 0) 255), .int .i64 u0.Rest]) (ty := 28) rfl (by kernel_rfl) (by kernel_rfl) (by kernel_rfl) (by kernel_rfl) (by kernel_rfl) rfl) ?_; intro a342 hF343; clear hF341
        refine sr hF343 hM340 1 [.int .i64 (min (max (w64 (u0.Sent + (([0, -1, 0, 8, 0, 0, 0] : List Int).getD u1.toNat 0))) 0) 256), .int .i64 (min (max (w64 (u0.Got + (([0, 0, -1, 0, 1, 8, 0] : List Int).getD u1.toNat 0))) 0) 255), .int .i64 u0.Rest] (b := b7) (off := 0) (cs := [.int .i64 0, .int .i64 0, .int .i64 0]) (ty := 28) (u := .agg #[.int .i64 (min (max (w64 (u0.Sent + (([0, -1, 0, 8, 0, 0, 0] : List Int).getD u1.toNat 0))) 0) 256), .int .i64 (min (max (w64 (u0.Got + (([0, 0, -1, 0, 1, 8, 0] : List Int).getD u1.toNat 0))) 0) 255), .int .i64 u0.Rest]) (nog rfl _) rfl rfl (by kernel_rfl) (by kernel_rfl) (by kernel_rfl) (by kernel_rfl) (by kernel_rfl) (by kernel_rfl) (by kernel_rfl) ?_; intro wd344 hM345; clear hM340
        refine st hF343 (.int .i64 0) (nog rfl _) rfl (by kernel_rfl) (p0 hF343 (by kernel_rfl)) ?_; intro a346 hF347; clear hF343
        have hM348 : Mem w.heap.size [] w Z [.row b224 [.int .i64 (([0, -1, 0, 8, 0, 0, 0] : List Int).getD u1.toNat 0), .int .i64 (([0, 0, -1, 0, 1, 8, 0] : List Int).getD u1.toNat 0)] 46, .row b7 [.int .i64 (min (max (w64 (u0.Sent + (([0, -1, 0, 8, 0, 0, 0] : List Int).getD u1.toNat 0))) 0) 256), .int .i64 (min (max (w64 (u0.Got + (([0, 0, -1, 0, 1, 8, 0] : List Int).getD u1.toNat 0))) 0) 255), .int .i64 u0.Rest] 28, .row b2 [.int .i64 (min (max (w64 (u0.Sent + (([0, -1, 0, 8, 0, 0, 0] : List Int).getD u1.toNat 0))) 0) 256), .int .i64 (min (max (w64 (u0.Got + (([0, 0, -1, 0, 1, 8, 0] : List Int).getD u1.toNat 0))) 0) 255), .int .i64 u0.Rest] 28] Z wd344 := hM345; clear hM345
        refine nlT ?_
        refine wp_ret ?_
        refine rt (fn := Try.f17) (v := .tuple #[.agg #[.int .i64 (min (max (w64 (u0.Sent + (([0, -1, 0, 8, 0, 0, 0] : List Int).getD u1.toNat 0))) 0) 256), .int .i64 (min (max (w64 (u0.Got + (([0, 0, -1, 0, 1, 8, 0] : List Int).getD u1.toNat 0))) 0) 255), .int .i64 u0.Rest], .int .i64 0]) hF347 (re2c hF347 (fn := Try.f17) rfl (ad := ⟨b7, 0, none⟩) (by kernel_rfl) (loadVar_run hM348 1 (b := b7) (k := 3) (vs := [.int .i64 (min (max (w64 (u0.Sent + (([0, -1, 0, 8, 0, 0, 0] : List Int).getD u1.toNat 0))) 0) 256), .int .i64 (min (max (w64 (u0.Got + (([0, 0, -1, 0, 1, 8, 0] : List Int).getD u1.toNat 0))) 0) 255), .int .i64 u0.Rest]) (ty := 28) rfl (by kernel_rfl) (by kernel_rfl)) (by kernel_rfl)) ?_
        exact ⟨((⟨min (max (w64 (u0.Sent + (([0, -1, 0, 8, 0, 0, 0] : List Int).getD u1.toNat 0))) 0) 256, min (max (w64 (u0.Got + (([0, 0, -1, 0, 1, 8, 0] : List Int).getD u1.toNat 0))) 0) 255, u0.Rest⟩ : Health), 0), rfl, hp300, hM348.below⟩
theorem hchange_fun (u0 : Health) (u1 : Int)  (Z : Fz) (w : World)  (hZ : Z.on w) : Calls Try.prog 17 #[.agg #[.int .i64 u0.Sent, .int .i64 u0.Got, .int .i64 u0.Rest], .int .i64 u1] w fun e w' => e = .returned (.tuple #[.agg #[.int .i64 (((hchange u0 u1).1).Sent), .int .i64 (((hchange u0 u1).1).Got), .int .i64 (((hchange u0 u1).1).Rest)], .int .i64 ((hchange u0 u1).2)]) ∧ Below w.heap.size w w' :=
  (hchange_walk u0 u1  Z w  hZ (hchange_ok u0 u1)).mono fun _ _ ⟨r, he, hk, hb⟩ => ⟨by subst hk; exact he, hb⟩

set_option maxRecDepth 100000 in
theorem hTill_walk (u0 : Health)  (Z : Fz) (w : World)  (hZ : Z.on w) {K : (Int × Int) → Prop} (hp : hTill_vc u0 K) : Calls Try.prog 16 #[.agg #[.int .i64 u0.Sent, .int .i64 u0.Got, .int .i64 u0.Rest]] w fun e w' => ∃ r : Int × Int, e = .returned (.tuple #[.int .i64 r.1, .int .i64 r.2]) ∧ K r ∧ Below w.heap.size w w' := by
  refine enter0 Try.func16 rfl rfl (by kernel_rfl) ?_; intro a0 hF0; have hM0 := Mem.start w Z hZ; have hle0 := Fz.le.refl Z
  have hF1 : Fr 15 [] [⟨0, [], .agg #[.int .i64 u0.Sent, .int .i64 u0.Got, .int .i64 u0.Rest]⟩] a0 := hF0.region (by kernel_rfl) (by kernel_rfl); clear hF0
  refine sqR ?_
  refine sn hF1 hM0 (fun b => .pointer (some ⟨b, 0, none⟩)) [.int .i64 u0.Sent, .int .i64 u0.Got, .int .i64 u0.Rest] 28 (nog rfl _) rfl (by kernel_rfl) (by kernel_rfl) ?_; intro b2 a3 wd5 hF4 hM6; clear hF1 hM0
  refine st hF4 (.int .i64 0) (nog rfl _) rfl (by kernel_rfl) (p0 hF4 (by kernel_rfl)) ?_; intro a7 hF8; clear hF4
  refine st hF8 (.int .i64 0) (nog rfl _) rfl (by kernel_rfl) (p0 hF8 (by kernel_rfl)) ?_; intro a9 hF10; clear hF8
  have hM11 : Mem w.heap.size [] w Z [.row b2 [.int .i64 u0.Sent, .int .i64 u0.Got, .int .i64 u0.Rest] 28] Z wd5 := hM6; clear hM6
  refine nlT ?_
  refine wp_seq ?_
  have hF12 : Fr 15 [] [⟨1, [], .pointer (some ⟨b2, 0, none⟩)⟩] a9 := hF10.region (by kernel_rfl) (by kernel_rfl); clear hF10
  refine sqR ?_
  refine st hF12 (.agg #[.int .i64 u0.Sent, .int .i64 u0.Got, .int .i64 u0.Rest]) (nog rfl _) rfl (by kernel_rfl) (lda hF12 hM11 0 (g := []) (b := b2) (off := 0) (k := 3) (cs := [.int .i64 u0.Sent, .int .i64 u0.Got, .int .i64 u0.Rest]) (vs := [.int .i64 u0.Sent, .int .i64 u0.Got, .int .i64 u0.Rest]) (ty := 28) rfl (by kernel_rfl) (by kernel_rfl) (by kernel_rfl) (by kernel_rfl) (by kernel_rfl) rfl) ?_; intro a13 hF14; clear hF12
  refine fcl hF14 hM11 (.int .i64 (hcheck u0)) 12 #[.agg #[.int .i64 u0.Sent, .int .i64 u0.Got, .int .i64 u0.Rest]] (nog rfl _) rfl (by kernel_rfl) (fun _ => by kernel_rfl) (hcheck_fun u0 _ _ hM11.fz) ?_; intro a15 wd17 hF16 hM18; clear hF14 hM11
  refine st hF16 (.int .i64 (hcheck u0)) (nog rfl _) rfl (by kernel_rfl) (p0 hF16 (by kernel_rfl)) ?_; intro a19 hF20; clear hF16
  have hM21 : Mem w.heap.size [] w Z [.row b2 [.int .i64 u0.Sent, .int .i64 u0.Got, .int .i64 u0.Rest] 28] Z wd17 := hM18; clear hM18
  refine nlT ?_
  have hF22 : Fr 15 [] [⟨1, [], .pointer (some ⟨b2, 0, none⟩)⟩, ⟨4, [], .int .i64 (hcheck u0)⟩] a19 := hF20.region (by kernel_rfl) (by kernel_rfl); clear hF20
  refine sqR ?_
  refine st hF22 (.int .i64 (hcheck u0)) (nog rfl _) rfl (by kernel_rfl) (p0 hF22 (by kernel_rfl)) ?_; intro a23 hF24; clear hF22
  refine st hF24 (.bool ((hcheck u0) != 0)) (nog rfl _) rfl (by kernel_rfl) (p0 hF24 (by kernel_rfl)) ?_; intro a25 hF26; clear hF24
  have hM27 : Mem w.heap.size [] w Z [.row b2 [.int .i64 u0.Sent, .int .i64 u0.Got, .int .i64 u0.Rest] 28] Z wd17 := hM21; clear hM21
  refine nlT ?_
  refine cd hF26 (t := (hcheck u0) != 0) (by kernel_rfl) (fun hb28 => ?_) (fun hb28 => ?_)
  · -- yes
    have hp29 := hp.1 hb28; clear hp
    have hF30 : Fr 15 [] [⟨4, [], .int .i64 (hcheck u0)⟩] a25 := hF26.region (by kernel_rfl) (by kernel_rfl); clear hF26
    refine sqR ?_
    refine st hF30 (.int .i64 (hcheck u0)) (nog rfl _) rfl (by kernel_rfl) (p0 hF30 (by kernel_rfl)) ?_; intro a31 hF32; clear hF30
    refine st hF32 (.int .i64 0) (nog rfl _) rfl (by kernel_rfl) (p0 hF32 (by kernel_rfl)) ?_; intro a33 hF34; clear hF32
    refine st hF34 (.int .i64 (hcheck u0)) (nog rfl _) rfl (by kernel_rfl) (p0 hF34 (by kernel_rfl)) ?_; intro a35 hF36; clear hF34
    have hM37 : Mem w.heap.size [] w Z [.row b2 [.int .i64 u0.Sent, .int .i64 u0.Got, .int .i64 u0.Rest] 28] Z wd17 := hM27; clear hM27
    refine nlT ?_
    refine wp_ret ?_
    refine thr ?_
    refine rt (fn := Try.f16) (v := .tuple #[.int .i64 0, .int .i64 (hcheck u0)]) hF36 (re2 hF36 (fn := Try.f16) rfl (by kernel_rfl) (by kernel_rfl)) ?_
    exact ⟨(0, (hcheck u0)), rfl, hp29, hM37.below⟩
  · -- no
    have hp38 := hp.2 hb28; clear hp
    refine wp_skip ?_
    refine thn ?_
    have hF39 : Fr 15 [] [⟨1, [], .pointer (some ⟨b2, 0, none⟩)⟩] a25 := hF26.region (by kernel_rfl) (by kernel_rfl); clear hF26
    refine sqR ?_
    refine st hF39 (.pointer (some ⟨b2, 0, none⟩)) (nog rfl _) rfl (by kernel_rfl) (p0 hF39 (by kernel_rfl)) ?_; intro a40 hF41; clear hF39
    refine st hF41 (.int .i64 u0.Sent) (nog rfl _) rfl (by kernel_rfl) (ld hF41 hM27 0 (g := []) (b := b2) (off := 0) (cs := [.int .i64 u0.Sent, .int .i64 u0.Got, .int .i64 u0.Rest]) (ty := 28) rfl (by kernel_rfl) (by kernel_rfl) (by kernel_rfl) (by kernel_rfl) rfl) ?_; intro a42 hF43; clear hF41
    refine st hF43 (.int .i64 (w64 (256 - u0.Sent))) (nog rfl _) rfl (by kernel_rfl) (p0 hF43 (by kernel_rfl)) ?_; intro a44 hF45; clear hF43
    refine st hF45 (.int .i64 (w64 ((w64 (256 - u0.Sent)) + 7))) (nog rfl _) rfl (by kernel_rfl) (p0 hF45 (by kernel_rfl)) ?_; intro a46 hF47; clear hF45
    refine st hF47 (.int .i64 (w64 ((w64 ((w64 (256 - u0.Sent)) + 7)).tdiv 8))) (nog rfl _) rfl (by kernel_rfl) (p0 hF47 (by kernel_rfl)) ?_; intro a48 hF49; clear hF47
    refine st hF49 (.int .i64 (w64 ((w64 ((w64 (256 - u0.Sent)) + 7)).tdiv 8))) (nog rfl _) rfl (by kernel_rfl) (p0 hF49 (by kernel_rfl)) ?_; intro a50 hF51; clear hF49
    refine st hF51 (.int .i64 0) (nog rfl _) rfl (by kernel_rfl) (p0 hF51 (by kernel_rfl)) ?_; intro a52 hF53; clear hF51
    have hM54 : Mem w.heap.size [] w Z [.row b2 [.int .i64 u0.Sent, .int .i64 u0.Got, .int .i64 u0.Rest] 28] Z wd17 := hM27; clear hM27
    refine nlT ?_
    refine wp_ret ?_
    refine rt (fn := Try.f16) (v := .tuple #[.int .i64 (w64 ((w64 ((w64 (256 - u0.Sent)) + 7)).tdiv 8)), .int .i64 0]) hF53 (re2 hF53 (fn := Try.f16) rfl (by kernel_rfl) (by kernel_rfl)) ?_
    exact ⟨(w64 ((w64 ((w64 (256 - u0.Sent)) + 7)).tdiv 8), 0), rfl, hp38, hM54.below⟩
theorem hTill_fun (u0 : Health)  (Z : Fz) (w : World)  (hZ : Z.on w) : Calls Try.prog 16 #[.agg #[.int .i64 u0.Sent, .int .i64 u0.Got, .int .i64 u0.Rest]] w fun e w' => e = .returned (.tuple #[.int .i64 ((hTill u0).1), .int .i64 ((hTill u0).2)]) ∧ Below w.heap.size w w' :=
  (hTill_walk u0  Z w  hZ (hTill_ok u0)).mono fun _ _ ⟨r, he, hk, hb⟩ => ⟨by subst hk; exact he, hb⟩

set_option maxRecDepth 100000 in
theorem chin_walk (u0 : Int) (u1 : Int)  (Z : Fz) (w : World)  (hZ : Z.on w) {K : Bool → Prop} (hp : chin_vc u0 u1 K) : Calls Try.prog 19 #[.int .i64 u0, .int .i64 u1] w fun e w' => ∃ r : Bool, e = .returned (.bool r) ∧ K r ∧ Below w.heap.size w w' := by
  refine enter0 Try.func19 rfl rfl (by kernel_rfl) ?_; intro a0 hF0; have hM0 := Mem.start w Z hZ; have hle0 := Fz.le.refl Z
  have hF1 : Fr 12 [] [⟨0, [], .int .i64 u0⟩, ⟨1, [], .int .i64 u1⟩] a0 := hF0.region (by kernel_rfl) (by kernel_rfl); clear hF0
  refine sqR ?_
  refine st hF1 (.bool false) (nog rfl _) rfl (by kernel_rfl) (p0 hF1 (by kernel_rfl)) ?_; intro a2 hF3; clear hF1
  have hM4 : Mem w.heap.size [] w Z [] Z w := hM0; clear hM0
  refine nlT ?_
  have hF5 : Fr 12 [] [⟨0, [], .int .i64 u0⟩, ⟨1, [], .int .i64 u1⟩] a2 := hF3.region (by kernel_rfl) (by kernel_rfl); clear hF3
  refine sqR ?_
  refine st hF5 (.int .i64 u0) (nog rfl _) rfl (by kernel_rfl) (p0 hF5 (by kernel_rfl)) ?_; intro a6 hF7; clear hF5
  refine st hF7 (.bool (decide (u0 ≥ 0))) (nog rfl _) rfl (by kernel_rfl) (p0 hF7 (by kernel_rfl)) ?_; intro a8 hF9; clear hF7
  refine st hF9 (.bool (decide (u0 ≥ 0))) (nog rfl _) rfl (by kernel_rfl) (p0 hF9 (by kernel_rfl)) ?_; intro a10 hF11; clear hF9
  have hF12 := hF11.atom ((decide (u0 ≥ 0)) == true) (by kernel_rfl); clear hF11
  refine gd hF12 (.int .i64 u0) (m := 0) (cj := []) (bj := decide (u0 ≥ 0)) rfl rfl (by kernel_rfl) rfl (by kernel_rfl) (by kernel_rfl) (by kernel_rfl) (fun hg => pu hF12 (g := [0]) (by kernel_rfl) hg) ?_; intro a13 hF14; clear hF12
  refine gd hF14 (.int .i64 u1) (m := 0) (cj := []) (bj := decide (u0 ≥ 0)) rfl rfl (by kernel_rfl) rfl (by kernel_rfl) (by kernel_rfl) (by kernel_rfl) (fun hg => pu hF14 (g := [0]) (by kernel_rfl) hg) ?_; intro a15 hF16; clear hF14
  refine gd hF16 (.bool (decide (u0 ≤ u1))) (m := 0) (cj := []) (bj := decide (u0 ≥ 0)) rfl rfl (by kernel_rfl) rfl (by kernel_rfl) (by kernel_rfl) (by kernel_rfl) (fun hg => pu hF16 (g := [0]) (by kernel_rfl) hg) ?_; intro a17 hF18; clear hF16
  refine st hF18 (.bool ((decide (u0 ≥ 0)) && (decide (u0 ≤ u1)))) (nog rfl _) rfl (by kernel_rfl) (pk_and hF18 (g := []) (m := 0) (b := decide (u0 ≥ 0)) (v := decide (u0 ≤ u1)) rfl (by kernel_rfl) (by kernel_rfl) (by kernel_rfl) rfl) ?_; intro a19 hF20; clear hF18
  refine st hF20 (.bool ((decide (u0 ≥ 0)) && (decide (u0 ≤ u1)))) (nog rfl _) rfl (by kernel_rfl) (p0 hF20 (by kernel_rfl)) ?_; intro a21 hF22; clear hF20
  have hM23 : Mem w.heap.size [] w Z [] Z w := hM4; clear hM4
  refine nlT ?_
  refine wp_ret ?_
  refine rt (fn := Try.f19) (v := .bool ((decide (u0 ≥ 0)) && (decide (u0 ≤ u1)))) hF22 (re1 hF22 (fn := Try.f19) rfl (by kernel_rfl)) ?_
  exact ⟨(decide (u0 ≥ 0)) && (decide (u0 ≤ u1)), rfl, hp, hM23.below⟩
theorem chin_fun (u0 : Int) (u1 : Int)  (Z : Fz) (w : World)  (hZ : Z.on w) : Calls Try.prog 19 #[.int .i64 u0, .int .i64 u1] w fun e w' => e = .returned (.bool (chin u0 u1)) ∧ Below w.heap.size w w' :=
  (chin_walk u0 u1  Z w  hZ (chin_ok u0 u1)).mono fun _ _ ⟨r, he, hk, hb⟩ => ⟨by subst hk; exact he, hb⟩

set_option maxRecDepth 100000 in
theorem rcheckh_walk (u0 : Health)  (Z : Fz) (w : World)  (hZ : Z.on w) {K : Int → Prop} (hp : rcheckh_vc u0 K) : Calls Try.prog 10 #[.agg #[.int .i64 u0.Sent, .int .i64 u0.Got, .int .i64 u0.Rest]] w fun e w' => ∃ r : Int, e = .returned (.int .i64 r) ∧ K r ∧ Below w.heap.size w w' := by
  refine enter0 Try.func10 rfl rfl (by kernel_rfl) ?_; intro a0 hF0; have hM0 := Mem.start w Z hZ; have hle0 := Fz.le.refl Z
  have hF1 : Fr 33 [] [⟨0, [], .agg #[.int .i64 u0.Sent, .int .i64 u0.Got, .int .i64 u0.Rest]⟩] a0 := hF0.region (by kernel_rfl) (by kernel_rfl); clear hF0
  refine sqR ?_
  refine sn hF1 hM0 (fun b => .pointer (some ⟨b, 0, none⟩)) [.int .i64 u0.Sent, .int .i64 u0.Got, .int .i64 u0.Rest] 28 (nog rfl _) rfl (by kernel_rfl) (by kernel_rfl) ?_; intro b2 a3 wd5 hF4 hM6; clear hF1 hM0
  refine st hF4 (.int .i64 0) (nog rfl _) rfl (by kernel_rfl) (p0 hF4 (by kernel_rfl)) ?_; intro a7 hF8; clear hF4
  have hM9 : Mem w.heap.size [] w Z [.row b2 [.int .i64 u0.Sent, .int .i64 u0.Got, .int .i64 u0.Rest] 28] Z wd5 := hM6; clear hM6
  refine nlT ?_
  have hF10 : Fr 33 [] [⟨1, [], .pointer (some ⟨b2, 0, none⟩)⟩] a7 := hF8.region (by kernel_rfl) (by kernel_rfl); clear hF8
  refine sqR ?_
  refine st hF10 (.func (.func 19) #[] #[]) (nog rfl _) rfl (by kernel_rfl) (p0 hF10 (by kernel_rfl)) ?_; intro a11 hF12; clear hF10
  have hM13 : Mem w.heap.size [] w Z [.row b2 [.int .i64 u0.Sent, .int .i64 u0.Got, .int .i64 u0.Rest] 28] Z wd5 := hM9; clear hM9
  refine nlT ?_
  refine wp_seq ?_
  have hF14 : Fr 33 [] [⟨1, [], .pointer (some ⟨b2, 0, none⟩)⟩, ⟨3, [], .func (.func 19) #[] #[]⟩] a11 := hF12.region (by kernel_rfl) (by kernel_rfl); clear hF12
  refine sqR ?_
  refine st hF14 (.func (.func 19) #[] #[]) (nog rfl _) rfl (by kernel_rfl) (p0 hF14 (by kernel_rfl)) ?_; intro a15 hF16; clear hF14
  refine st hF16 (.pointer (some ⟨b2, 0, none⟩)) (nog rfl _) rfl (by kernel_rfl) (p0 hF16 (by kernel_rfl)) ?_; intro a17 hF18; clear hF16
  refine st hF18 (.int .i64 u0.Sent) (nog rfl _) rfl (by kernel_rfl) (ld hF18 hM13 0 (g := []) (b := b2) (off := 0) (cs := [.int .i64 u0.Sent, .int .i64 u0.Got, .int .i64 u0.Rest]) (ty := 28) rfl (by kernel_rfl) (by kernel_rfl) (by kernel_rfl) (by kernel_rfl) rfl) ?_; intro a19 hF20; clear hF18
  refine fcl hF20 hM13 (.bool (chin u0.Sent 256)) 19 #[.int .i64 u0.Sent, .int .i64 256] (nog rfl _) rfl (by kernel_rfl) (fun _ => by kernel_rfl) (chin_fun u0.Sent 256 _ _ hM13.fz) ?_; intro a21 wd23 hF22 hM24; clear hF20 hM13
  refine st hF22 (.bool (!(chin u0.Sent 256))) (nog rfl _) rfl (by kernel_rfl) (p0 hF22 (by kernel_rfl)) ?_; intro a25 hF26; clear hF22
  refine st hF26 (.bool (!(chin u0.Sent 256))) (nog rfl _) rfl (by kernel_rfl) (p0 hF26 (by kernel_rfl)) ?_; intro a27 hF28; clear hF26
  have hF29 := hF28.atom ((!(chin u0.Sent 256)) == false) (by kernel_rfl); clear hF28
  refine gd hF29 (.func (.func 19) #[] #[]) (m := 0) (cj := []) (bj := !(chin u0.Sent 256)) rfl rfl (by kernel_rfl) rfl (by kernel_rfl) (by kernel_rfl) (by kernel_rfl) (fun hg => pu hF29 (g := [0]) (by kernel_rfl) hg) ?_; intro a30 hF31; clear hF29
  refine gd hF31 (.pointer (some ⟨b2, 1, none⟩)) (m := 0) (cj := []) (bj := !(chin u0.Sent 256)) rfl rfl (by kernel_rfl) rfl (by kernel_rfl) (by kernel_rfl) (by kernel_rfl) (fun hg => pu hF31 (g := [0]) (by kernel_rfl) hg) ?_; intro a32 hF33; clear hF31
  refine gd hF33 (.int .i64 u0.Got) (m := 0) (cj := []) (bj := !(chin u0.Sent 256)) rfl rfl (by kernel_rfl) rfl (by kernel_rfl) (by kernel_rfl) (by kernel_rfl) (fun hg => ld hF33 hM24 0 (g := [0]) (b := b2) (off := 1) (cs := [.int .i64 u0.Sent, .int .i64 u0.Got, .int .i64 u0.Rest]) (ty := 28) rfl (by kernel_rfl) (by kernel_rfl) (by kernel_rfl) (by kernel_rfl) hg) ?_; intro a34 hF35; clear hF33
  refine gcl hF35 hM24 (.bool (chin u0.Got 255)) 19 #[.int .i64 u0.Got, .int .i64 255] (m := 0) (cj := []) (bj := !(chin u0.Sent 256)) rfl rfl (by kernel_rfl) rfl (by kernel_rfl) (by kernel_rfl) (by kernel_rfl) (fun _ => by kernel_rfl) (fun hg => chin_fun u0.Got 255 _ _ hM24.fz) ?_; intro a36 wd38 hF37 hM39; clear hF35 hM24
  refine gd hF37 (.bool (!(chin u0.Got 255))) (m := 0) (cj := []) (bj := !(chin u0.Sent 256)) rfl rfl (by kernel_rfl) rfl (by kernel_rfl) (by kernel_rfl) (by kernel_rfl) (fun hg => pu hF37 (g := [0]) (by kernel_rfl) hg) ?_; intro a40 hF41; clear hF37
  refine st hF41 (.bool ((!(chin u0.Sent 256)) || (!(chin u0.Got 255)))) (nog rfl _) rfl (by kernel_rfl) (pk_or hF41 (g := []) (m := 0) (b := !(chin u0.Sent 256)) (v := !(chin u0.Got 255)) rfl (by kernel_rfl) (by kernel_rfl) (by kernel_rfl) rfl) ?_; intro a42 hF43; clear hF41
  refine st hF43 (.bool ((!(chin u0.Sent 256)) || (!(chin u0.Got 255)))) (nog rfl _) rfl (by kernel_rfl) (p0 hF43 (by kernel_rfl)) ?_; intro a44 hF45; clear hF43
  have hF46 := hF45.atom (((!(chin u0.Sent 256)) || (!(chin u0.Got 255))) == false) (by kernel_rfl); clear hF45
  refine gd hF46 (.func (.func 19) #[] #[]) (m := 1) (cj := []) (bj := (!(chin u0.Sent 256)) || (!(chin u0.Got 255))) rfl rfl (by kernel_rfl) rfl (by kernel_rfl) (by kernel_rfl) (by kernel_rfl) (fun hg => pu hF46 (g := [1]) (by kernel_rfl) hg) ?_; intro a47 hF48; clear hF46
  refine gd hF48 (.pointer (some ⟨b2, 2, none⟩)) (m := 1) (cj := []) (bj := (!(chin u0.Sent 256)) || (!(chin u0.Got 255))) rfl rfl (by kernel_rfl) rfl (by kernel_rfl) (by kernel_rfl) (by kernel_rfl) (fun hg => pu hF48 (g := [1]) (by kernel_rfl) hg) ?_; intro a49 hF50; clear hF48
  refine gd hF50 (.int .i64 u0.Rest) (m := 1) (cj := []) (bj := (!(chin u0.Sent 256)) || (!(chin u0.Got 255))) rfl rfl (by kernel_rfl) rfl (by kernel_rfl) (by kernel_rfl) (by kernel_rfl) (fun hg => ld hF50 hM39 0 (g := [1]) (b := b2) (off := 2) (cs := [.int .i64 u0.Sent, .int .i64 u0.Got, .int .i64 u0.Rest]) (ty := 28) rfl (by kernel_rfl) (by kernel_rfl) (by kernel_rfl) (by kernel_rfl) hg) ?_; intro a51 hF52; clear hF50
  refine gcl hF52 hM39 (.bool (chin u0.Rest 127)) 19 #[.int .i64 u0.Rest, .int .i64 127] (m := 1) (cj := []) (bj := (!(chin u0.Sent 256)) || (!(chin u0.Got 255))) rfl rfl (by kernel_rfl) rfl (by kernel_rfl) (by kernel_rfl) (by kernel_rfl) (fun _ => by kernel_rfl) (fun hg => chin_fun u0.Rest 127 _ _ hM39.fz) ?_; intro a53 wd55 hF54 hM56; clear hF52 hM39
  refine gd hF54 (.bool (!(chin u0.Rest 127))) (m := 1) (cj := []) (bj := (!(chin u0.Sent 256)) || (!(chin u0.Got 255))) rfl rfl (by kernel_rfl) rfl (by kernel_rfl) (by kernel_rfl) (by kernel_rfl) (fun hg => pu hF54 (g := [1]) (by kernel_rfl) hg) ?_; intro a57 hF58; clear hF54
  refine st hF58 (.bool (((!(chin u0.Sent 256)) || (!(chin u0.Got 255))) || (!(chin u0.Rest 127)))) (nog rfl _) rfl (by kernel_rfl) (pk_or hF58 (g := []) (m := 1) (b := (!(chin u0.Sent 256)) || (!(chin u0.Got 255))) (v := !(chin u0.Rest 127)) rfl (by kernel_rfl) (by kernel_rfl) (by kernel_rfl) rfl) ?_; intro a59 hF60; clear hF58
  refine st hF60 (.bool (((!(chin u0.Sent 256)) || (!(chin u0.Got 255))) || (!(chin u0.Rest 127)))) (nog rfl _) rfl (by kernel_rfl) (p0 hF60 (by kernel_rfl)) ?_; intro a61 hF62; clear hF60
  have hF63 := hF62.atom ((((!(chin u0.Sent 256)) || (!(chin u0.Got 255))) || (!(chin u0.Rest 127))) == false) (by kernel_rfl); clear hF62
  refine gd hF63 (.pointer (some ⟨b2, 0, none⟩)) (m := 2) (cj := []) (bj := ((!(chin u0.Sent 256)) || (!(chin u0.Got 255))) || (!(chin u0.Rest 127))) rfl rfl (by kernel_rfl) rfl (by kernel_rfl) (by kernel_rfl) (by kernel_rfl) (fun hg => pu hF63 (g := [2]) (by kernel_rfl) hg) ?_; intro a64 hF65; clear hF63
  refine gd hF65 (.int .i64 u0.Sent) (m := 2) (cj := []) (bj := ((!(chin u0.Sent 256)) || (!(chin u0.Got 255))) || (!(chin u0.Rest 127))) rfl rfl (by kernel_rfl) rfl (by kernel_rfl) (by kernel_rfl) (by kernel_rfl) (fun hg => ld hF65 hM56 0 (g := [2]) (b := b2) (off := 0) (cs := [.int .i64 u0.Sent, .int .i64 u0.Got, .int .i64 u0.Rest]) (ty := 28) rfl (by kernel_rfl) (by kernel_rfl) (by kernel_rfl) (by kernel_rfl) hg) ?_; intro a66 hF67; clear hF65
  refine gd hF67 (.bool (u0.Sent != 256)) (m := 2) (cj := []) (bj := ((!(chin u0.Sent 256)) || (!(chin u0.Got 255))) || (!(chin u0.Rest 127))) rfl rfl (by kernel_rfl) rfl (by kernel_rfl) (by kernel_rfl) (by kernel_rfl) (fun hg => pu hF67 (g := [2]) (by kernel_rfl) hg) ?_; intro a68 hF69; clear hF67
  refine gd hF69 (.bool (u0.Sent != 256)) (m := 2) (cj := []) (bj := ((!(chin u0.Sent 256)) || (!(chin u0.Got 255))) || (!(chin u0.Rest 127))) rfl rfl (by kernel_rfl) rfl (by kernel_rfl) (by kernel_rfl) (by kernel_rfl) (fun hg => pu hF69 (g := [2]) (by kernel_rfl) hg) ?_; intro a70 hF71; clear hF69
  have hF72 := hF71.atom ((u0.Sent != 256) == true) (by kernel_rfl); clear hF71
  refine gd hF72 (.pointer (some ⟨b2, 2, none⟩)) (m := 3) (cj := [2]) (bj := u0.Sent != 256) rfl rfl (by kernel_rfl) rfl (by kernel_rfl) (by kernel_rfl) (by kernel_rfl) (fun hg => pu hF72 (g := [3, 2]) (by kernel_rfl) hg) ?_; intro a73 hF74; clear hF72
  refine gd hF74 (.int .i64 u0.Rest) (m := 3) (cj := [2]) (bj := u0.Sent != 256) rfl rfl (by kernel_rfl) rfl (by kernel_rfl) (by kernel_rfl) (by kernel_rfl) (fun hg => ld hF74 hM56 0 (g := [3, 2]) (b := b2) (off := 2) (cs := [.int .i64 u0.Sent, .int .i64 u0.Got, .int .i64 u0.Rest]) (ty := 28) rfl (by kernel_rfl) (by kernel_rfl) (by kernel_rfl) (by kernel_rfl) hg) ?_; intro a75 hF76; clear hF74
  refine gd hF76 (.bool (u0.Rest != 0)) (m := 3) (cj := [2]) (bj := u0.Sent != 256) rfl rfl (by kernel_rfl) rfl (by kernel_rfl) (by kernel_rfl) (by kernel_rfl) (fun hg => pu hF76 (g := [3, 2]) (by kernel_rfl) hg) ?_; intro a77 hF78; clear hF76
  refine gd hF78 (.bool ((u0.Sent != 256) && (u0.Rest != 0))) (m := 2) (cj := []) (bj := ((!(chin u0.Sent 256)) || (!(chin u0.Got 255))) || (!(chin u0.Rest 127))) rfl rfl (by kernel_rfl) rfl (by kernel_rfl) (by kernel_rfl) (by kernel_rfl) (fun hg => pk_and hF78 (g := [2]) (m := 3) (b := u0.Sent != 256) (v := u0.Rest != 0) rfl (by kernel_rfl) (by kernel_rfl) (by kernel_rfl) hg) ?_; intro a79 hF80; clear hF78
  refine st hF80 (.bool ((((!(chin u0.Sent 256)) || (!(chin u0.Got 255))) || (!(chin u0.Rest 127))) || ((u0.Sent != 256) && (u0.Rest != 0)))) (nog rfl _) rfl (by kernel_rfl) (pk_or hF80 (g := []) (m := 2) (b := ((!(chin u0.Sent 256)) || (!(chin u0.Got 255))) || (!(chin u0.Rest 127))) (v := (u0.Sent != 256) && (u0.Rest != 0)) rfl (by kernel_rfl) (by kernel_rfl) (by kernel_rfl) rfl) ?_; intro a81 hF82; clear hF80
  have hM83 : Mem w.heap.size [] w Z [.row b2 [.int .i64 u0.Sent, .int .i64 u0.Got, .int .i64 u0.Rest] 28] Z wd55 := hM56; clear hM56
  refine nlT ?_
  refine cd hF82 (t := (((!(chin u0.Sent 256)) || (!(chin u0.Got 255))) || (!(chin u0.Rest 127))) || ((u0.Sent != 256) && (u0.Rest != 0))) (by kernel_rfl) (fun hb84 => ?_) (fun hb84 => ?_)
  · -- yes
    have hp85 := hp.1 hb84; clear hp
    have hF86 : Fr 33 [] [] a81 := hF82.region (by kernel_rfl) (by kernel_rfl); clear hF82
    refine sqR ?_
    refine st hF86 (.int .i64 3) (nog rfl _) rfl (by kernel_rfl) (p0 hF86 (by kernel_rfl)) ?_; intro a87 hF88; clear hF86
    have hM89 : Mem w.heap.size [] w Z [.row b2 [.int .i64 u0.Sent, .int .i64 u0.Got, .int .i64 u0.Rest] 28] Z wd55 := hM83; clear hM83
    refine nlT ?_
    refine wp_ret ?_
    refine thr ?_
    refine rt (fn := Try.f10) (v := .int .i64 3) hF88 (re1 hF88 (fn := Try.f10) rfl (by kernel_rfl)) ?_
    exact ⟨3, rfl, hp85, hM89.below⟩
  · -- no
    have hp90 := hp.2 hb84; clear hp
    refine wp_skip ?_
    refine thn ?_
    have hF91 : Fr 33 [] [] a81 := hF82.region (by kernel_rfl) (by kernel_rfl); clear hF82
    refine sqR ?_
    refine st hF91 (.int .i64 0) (nog rfl _) rfl (by kernel_rfl) (p0 hF91 (by kernel_rfl)) ?_; intro a92 hF93; clear hF91
    have hM94 : Mem w.heap.size [] w Z [.row b2 [.int .i64 u0.Sent, .int .i64 u0.Got, .int .i64 u0.Rest] 28] Z wd55 := hM83; clear hM83
    refine nlT ?_
    refine wp_ret ?_
    refine rt (fn := Try.f10) (v := .int .i64 0) hF93 (re1 hF93 (fn := Try.f10) rfl (by kernel_rfl)) ?_
    exact ⟨0, rfl, hp90, hM94.below⟩
theorem rcheckh_fun (u0 : Health)  (Z : Fz) (w : World)  (hZ : Z.on w) : Calls Try.prog 10 #[.agg #[.int .i64 u0.Sent, .int .i64 u0.Got, .int .i64 u0.Rest]] w fun e w' => e = .returned (.int .i64 (rcheckh u0)) ∧ Below w.heap.size w w' :=
  (rcheckh_walk u0  Z w  hZ (rcheckh_ok u0)).mono fun _ _ ⟨r, he, hk, hb⟩ => ⟨by subst hk; exact he, hb⟩

set_option maxRecDepth 100000 in
theorem rstate_walk (u0 : Health)  (Z : Fz) (w : World)  (hZ : Z.on w) {K : Int → Prop} (hp : rstate_vc u0 K) : Calls Try.prog 13 #[.agg #[.int .i64 u0.Sent, .int .i64 u0.Got, .int .i64 u0.Rest]] w fun e w' => ∃ r : Int, e = .returned (.int .i64 r) ∧ K r ∧ Below w.heap.size w w' := by
  refine enter0 Try.func13 rfl rfl (by kernel_rfl) ?_; intro a0 hF0; have hM0 := Mem.start w Z hZ; have hle0 := Fz.le.refl Z
  have hF1 : Fr 12 [] [⟨0, [], .agg #[.int .i64 u0.Sent, .int .i64 u0.Got, .int .i64 u0.Rest]⟩] a0 := hF0.region (by kernel_rfl) (by kernel_rfl); clear hF0
  refine sqR ?_
  refine sn hF1 hM0 (fun b => .pointer (some ⟨b, 0, none⟩)) [.int .i64 u0.Sent, .int .i64 u0.Got, .int .i64 u0.Rest] 28 (nog rfl _) rfl (by kernel_rfl) (by kernel_rfl) ?_; intro b2 a3 wd5 hF4 hM6; clear hF1 hM0
  refine st hF4 (.int .i64 0) (nog rfl _) rfl (by kernel_rfl) (p0 hF4 (by kernel_rfl)) ?_; intro a7 hF8; clear hF4
  have hM9 : Mem w.heap.size [] w Z [.row b2 [.int .i64 u0.Sent, .int .i64 u0.Got, .int .i64 u0.Rest] 28] Z wd5 := hM6; clear hM6
  refine nlT ?_
  refine wp_seq ?_
  have hF10 : Fr 12 [] [⟨1, [], .pointer (some ⟨b2, 0, none⟩)⟩] a7 := hF8.region (by kernel_rfl) (by kernel_rfl); clear hF8
  refine sqR ?_
  refine st hF10 (.pointer (some ⟨b2, 0, none⟩)) (nog rfl _) rfl (by kernel_rfl) (p0 hF10 (by kernel_rfl)) ?_; intro a11 hF12; clear hF10
  refine st hF12 (.int .i64 u0.Sent) (nog rfl _) rfl (by kernel_rfl) (ld hF12 hM9 0 (g := []) (b := b2) (off := 0) (cs := [.int .i64 u0.Sent, .int .i64 u0.Got, .int .i64 u0.Rest]) (ty := 28) rfl (by kernel_rfl) (by kernel_rfl) (by kernel_rfl) (by kernel_rfl) rfl) ?_; intro a13 hF14; clear hF12
  refine st hF14 (.bool (u0.Sent == 256)) (nog rfl _) rfl (by kernel_rfl) (p0 hF14 (by kernel_rfl)) ?_; intro a15 hF16; clear hF14
  have hM17 : Mem w.heap.size [] w Z [.row b2 [.int .i64 u0.Sent, .int .i64 u0.Got, .int .i64 u0.Rest] 28] Z wd5 := hM9; clear hM9
  refine nlT ?_
  refine cd hF16 (t := u0.Sent == 256) (by kernel_rfl) (fun hb18 => ?_) (fun hb18 => ?_)
  · -- yes
    have hp19 := hp.1 hb18; clear hp
    have hF20 : Fr 12 [] [] a15 := hF16.region (by kernel_rfl) (by kernel_rfl); clear hF16
    refine sqR ?_
    refine st hF20 (.int .i64 2) (nog rfl _) rfl (by kernel_rfl) (p0 hF20 (by kernel_rfl)) ?_; intro a21 hF22; clear hF20
    have hM23 : Mem w.heap.size [] w Z [.row b2 [.int .i64 u0.Sent, .int .i64 u0.Got, .int .i64 u0.Rest] 28] Z wd5 := hM17; clear hM17
    refine nlT ?_
    refine wp_ret ?_
    refine thr ?_
    refine rt (fn := Try.f13) (v := .int .i64 2) hF22 (re1 hF22 (fn := Try.f13) rfl (by kernel_rfl)) ?_
    exact ⟨2, rfl, hp19, hM23.below⟩
  · -- no
    have hp24 := hp.2 hb18; clear hp
    refine wp_skip ?_
    refine thn ?_
    refine wp_seq ?_
    have hF25 : Fr 12 [] [⟨1, [], .pointer (some ⟨b2, 0, none⟩)⟩] a15 := hF16.region (by kernel_rfl) (by kernel_rfl); clear hF16
    refine sqR ?_
    refine st hF25 (.pointer (some ⟨b2, 0, none⟩)) (nog rfl _) rfl (by kernel_rfl) (p0 hF25 (by kernel_rfl)) ?_; intro a26 hF27; clear hF25
    refine st hF27 (.int .i64 u0.Sent) (nog rfl _) rfl (by kernel_rfl) (ld hF27 hM17 0 (g := []) (b := b2) (off := 0) (cs := [.int .i64 u0.Sent, .int .i64 u0.Got, .int .i64 u0.Rest]) (ty := 28) rfl (by kernel_rfl) (by kernel_rfl) (by kernel_rfl) (by kernel_rfl) rfl) ?_; intro a28 hF29; clear hF27
    refine st hF29 (.pointer (some ⟨b2, 1, none⟩)) (nog rfl _) rfl (by kernel_rfl) (p0 hF29 (by kernel_rfl)) ?_; intro a30 hF31; clear hF29
    refine st hF31 (.int .i64 u0.Got) (nog rfl _) rfl (by kernel_rfl) (ld hF31 hM17 0 (g := []) (b := b2) (off := 1) (cs := [.int .i64 u0.Sent, .int .i64 u0.Got, .int .i64 u0.Rest]) (ty := 28) rfl (by kernel_rfl) (by kernel_rfl) (by kernel_rfl) (by kernel_rfl) rfl) ?_; intro a32 hF33; clear hF31
    refine st hF33 (.int .i64 (max u0.Sent u0.Got)) (nog rfl _) rfl (by kernel_rfl) (re_ (p0 hF33 (r := .ok (.value (.int .i64 (if u0.Sent < u0.Got then u0.Got else u0.Sent))) wd5) (by kernel_rfl)) (by rw [imax])) ?_; intro a34 hF35; clear hF33
    refine st hF35 (.bool (decide ((max u0.Sent u0.Got) ≥ 128))) (nog rfl _) rfl (by kernel_rfl) (p0 hF35 (by kernel_rfl)) ?_; intro a36 hF37; clear hF35
    have hM38 : Mem w.heap.size [] w Z [.row b2 [.int .i64 u0.Sent, .int .i64 u0.Got, .int .i64 u0.Rest] 28] Z wd5 := hM17; clear hM17
    refine nlT ?_
    refine cd hF37 (t := decide ((max u0.Sent u0.Got) ≥ 128)) (by kernel_rfl) (fun hb39 => ?_) (fun hb39 => ?_)
    · -- yes
      have hp40 := hp24.1 hb39; clear hp24
      have hF41 : Fr 12 [] [] a36 := hF37.region (by kernel_rfl) (by kernel_rfl); clear hF37
      refine sqR ?_
      refine st hF41 (.int .i64 1) (nog rfl _) rfl (by kernel_rfl) (p0 hF41 (by kernel_rfl)) ?_; intro a42 hF43; clear hF41
      have hM44 : Mem w.heap.size [] w Z [.row b2 [.int .i64 u0.Sent, .int .i64 u0.Got, .int .i64 u0.Rest] 28] Z wd5 := hM38; clear hM38
      refine nlT ?_
      refine wp_ret ?_
      refine thr ?_
      refine rt (fn := Try.f13) (v := .int .i64 1) hF43 (re1 hF43 (fn := Try.f13) rfl (by kernel_rfl)) ?_
      exact ⟨1, rfl, hp40, hM44.below⟩
    · -- no
      have hp45 := hp24.2 hb39; clear hp24
      refine wp_skip ?_
      refine thn ?_
      have hF46 : Fr 12 [] [] a36 := hF37.region (by kernel_rfl) (by kernel_rfl); clear hF37
      refine sqR ?_
      refine st hF46 (.int .i64 0) (nog rfl _) rfl (by kernel_rfl) (p0 hF46 (by kernel_rfl)) ?_; intro a47 hF48; clear hF46
      have hM49 : Mem w.heap.size [] w Z [.row b2 [.int .i64 u0.Sent, .int .i64 u0.Got, .int .i64 u0.Rest] 28] Z wd5 := hM38; clear hM38
      refine nlT ?_
      refine wp_ret ?_
      refine rt (fn := Try.f13) (v := .int .i64 0) hF48 (re1 hF48 (fn := Try.f13) rfl (by kernel_rfl)) ?_
      exact ⟨0, rfl, hp45, hM49.below⟩
theorem rstate_fun (u0 : Health)  (Z : Fz) (w : World)  (hZ : Z.on w) : Calls Try.prog 13 #[.agg #[.int .i64 u0.Sent, .int .i64 u0.Got, .int .i64 u0.Rest]] w fun e w' => e = .returned (.int .i64 (rstate u0)) ∧ Below w.heap.size w w' :=
  (rstate_walk u0  Z w  hZ (rstate_ok u0)).mono fun _ _ ⟨r, he, hk, hb⟩ => ⟨by subst hk; exact he, hb⟩

set_option maxRecDepth 100000 in
theorem rstep_walk (u0 : Health) (u1 : Int)  (Z : Fz) (w : World)  (hZ : Z.on w) {K : (Health × Bool) → Prop} (hp : rstep_vc u0 u1 K) : Calls Try.prog 14 #[.agg #[.int .i64 u0.Sent, .int .i64 u0.Got, .int .i64 u0.Rest], .int .i64 u1] w fun e w' => ∃ r : Health × Bool, e = .returned (.tuple #[.agg #[.int .i64 r.1.Sent, .int .i64 r.1.Got, .int .i64 r.1.Rest], .bool r.2]) ∧ K r ∧ Below w.heap.size w w' := by
  refine enter0 Try.func14 rfl rfl (by kernel_rfl) ?_; intro a0 hF0; have hM0 := Mem.start w Z hZ; have hle0 := Fz.le.refl Z
  have hF1 : Fr 80 [] [⟨0, [], .agg #[.int .i64 u0.Sent, .int .i64 u0.Got, .int .i64 u0.Rest]⟩, ⟨1, [], .int .i64 u1⟩] a0 := hF0.region (by kernel_rfl) (by kernel_rfl); clear hF0
  refine sqR ?_
  refine sn hF1 hM0 (fun b => .pointer (some ⟨b, 0, none⟩)) [.int .i64 u0.Sent, .int .i64 u0.Got, .int .i64 u0.Rest] 28 (nog rfl _) rfl (by kernel_rfl) (by kernel_rfl) ?_; intro b2 a3 wd5 hF4 hM6; clear hF1 hM0
  refine sn hF4 hM6 (fun b => .pointer (some ⟨b, 0, none⟩)) [.int .i64 0, .int .i64 0, .int .i64 0] 28 (nog rfl _) rfl (by kernel_rfl) (by kernel_rfl) ?_; intro b7 a8 wd10 hF9 hM11; clear hF4 hM6
  refine st hF9 (.bool false) (nog rfl _) rfl (by kernel_rfl) (p0 hF9 (by kernel_rfl)) ?_; intro a12 hF13; clear hF9
  have hM14 : Mem w.heap.size [] w Z [.row b7 [.int .i64 0, .int .i64 0, .int .i64 0] 28, .row b2 [.int .i64 u0.Sent, .int .i64 u0.Got, .int .i64 u0.Rest] 28] Z wd10 := hM11; clear hM11
  refine nlT ?_
  refine wp_seq ?_
  have hF15 : Fr 80 [] [⟨1, [], .int .i64 u1⟩, ⟨2, [], .pointer (some ⟨b2, 0, none⟩)⟩, ⟨4, [], .pointer (some ⟨b7, 0, none⟩)⟩] a12 := hF13.region (by kernel_rfl) (by kernel_rfl); clear hF13
  refine sqR ?_
  refine st hF15 (.int .i64 u1) (nog rfl _) rfl (by kernel_rfl) (p0 hF15 (by kernel_rfl)) ?_; intro a16 hF17; clear hF15
  refine st hF17 (.bool (decide (u1 < 1))) (nog rfl _) rfl (by kernel_rfl) (p0 hF17 (by kernel_rfl)) ?_; intro a18 hF19; clear hF17
  refine st hF19 (.bool (decide (u1 < 1))) (nog rfl _) rfl (by kernel_rfl) (p0 hF19 (by kernel_rfl)) ?_; intro a20 hF21; clear hF19
  have hF22 := hF21.atom ((decide (u1 < 1)) == false) (by kernel_rfl); clear hF21
  refine gd hF22 (.int .i64 u1) (m := 0) (cj := []) (bj := decide (u1 < 1)) rfl rfl (by kernel_rfl) rfl (by kernel_rfl) (by kernel_rfl) (by kernel_rfl) (fun hg => pu hF22 (g := [0]) (by kernel_rfl) hg) ?_; intro a23 hF24; clear hF22
  refine gd hF24 (.bool (decide (u1 > 6))) (m := 0) (cj := []) (bj := decide (u1 < 1)) rfl rfl (by kernel_rfl) rfl (by kernel_rfl) (by kernel_rfl) (by kernel_rfl) (fun hg => pu hF24 (g := [0]) (by kernel_rfl) hg) ?_; intro a25 hF26; clear hF24
  refine st hF26 (.bool ((decide (u1 < 1)) || (decide (u1 > 6)))) (nog rfl _) rfl (by kernel_rfl) (pk_or hF26 (g := []) (m := 0) (b := decide (u1 < 1)) (v := decide (u1 > 6)) rfl (by kernel_rfl) (by kernel_rfl) (by kernel_rfl) rfl) ?_; intro a27 hF28; clear hF26
  have hM29 : Mem w.heap.size [] w Z [.row b7 [.int .i64 0, .int .i64 0, .int .i64 0] 28, .row b2 [.int .i64 u0.Sent, .int .i64 u0.Got, .int .i64 u0.Rest] 28] Z wd10 := hM14; clear hM14
  refine nlT ?_
  refine cd hF28 (t := (decide (u1 < 1)) || (decide (u1 > 6))) (by kernel_rfl) (fun hb30 => ?_) (fun hb30 => ?_)
  · -- yes
    have hp31 := hp.1 hb30; clear hp
    have hF32 : Fr 80 [] [⟨4, [], .pointer (some ⟨b7, 0, none⟩)⟩] a27 := hF28.region (by kernel_rfl) (by kernel_rfl); clear hF28
    refine sqR ?_
    refine st hF32 (.agg #[.int .i64 0, .int .i64 0, .int .i64 0]) (nog rfl _) rfl (by kernel_rfl) (p0 hF32 (by kernel_rfl)) ?_; intro a33 hF34; clear hF32
    refine sr hF34 hM29 0 [.int .i64 0, .int .i64 0, .int .i64 0] (b := b7) (off := 0) (cs := [.int .i64 0, .int .i64 0, .int .i64 0]) (ty := 28) (u := .agg #[.int .i64 0, .int .i64 0, .int .i64 0]) (nog rfl _) rfl rfl (by kernel_rfl) (by kernel_rfl) (by kernel_rfl) (by kernel_rfl) (by kernel_rfl) (by kernel_rfl) (by kernel_rfl) ?_; intro wd35 hM36; clear hM29
    refine st hF34 (.bool false) (nog rfl _) rfl (by kernel_rfl) (p0 hF34 (by kernel_rfl)) ?_; intro a37 hF38; clear hF34
    have hM39 : Mem w.heap.size [] w Z [.row b7 [.int .i64 0, .int .i64 0, .int .i64 0] 28, .row b2 [.int .i64 u0.Sent, .int .i64 u0.Got, .int .i64 u0.Rest] 28] Z wd35 := hM36; clear hM36
    refine nlT ?_
    refine wp_ret ?_
    refine thr ?_
    refine rt (fn := Try.f14) (v := .tuple #[.agg #[.int .i64 0, .int .i64 0, .int .i64 0], .bool false]) hF38 (re2c hF38 (fn := Try.f14) rfl (ad := ⟨b7, 0, none⟩) (by kernel_rfl) (loadVar_run hM39 0 (b := b7) (k := 3) (vs := [.int .i64 0, .int .i64 0, .int .i64 0]) (ty := 28) rfl (by kernel_rfl) (by kernel_rfl)) (by kernel_rfl)) ?_
    exact ⟨((⟨0, 0, 0⟩ : Health), false), rfl, hp31, hM39.below⟩
  · -- no
    have hp40 := hp.2 hb30; clear hp
    refine wp_skip ?_
    refine thn ?_
    refine wp_seq ?_
    have hF41 : Fr 80 [] [⟨1, [], .int .i64 u1⟩, ⟨2, [], .pointer (some ⟨b2, 0, none⟩)⟩, ⟨4, [], .pointer (some ⟨b7, 0, none⟩)⟩] a27 := hF28.region (by kernel_rfl) (by kernel_rfl); clear hF28
    refine sqR ?_
    refine st hF41 (.pointer (some ⟨b2, 0, none⟩)) (nog rfl _) rfl (by kernel_rfl) (p0 hF41 (by kernel_rfl)) ?_; intro a42 hF43; clear hF41
    refine st hF43 (.int .i64 u0.Sent) (nog rfl _) rfl (by kernel_rfl) (ld hF43 hM29 1 (g := []) (b := b2) (off := 0) (cs := [.int .i64 u0.Sent, .int .i64 u0.Got, .int .i64 u0.Rest]) (ty := 28) rfl (by kernel_rfl) (by kernel_rfl) (by kernel_rfl) (by kernel_rfl) rfl) ?_; intro a44 hF45; clear hF43
    refine st hF45 (.bool (u0.Sent == 256)) (nog rfl _) rfl (by kernel_rfl) (p0 hF45 (by kernel_rfl)) ?_; intro a46 hF47; clear hF45
    have hM48 : Mem w.heap.size [] w Z [.row b7 [.int .i64 0, .int .i64 0, .int .i64 0] 28, .row b2 [.int .i64 u0.Sent, .int .i64 u0.Got, .int .i64 u0.Rest] 28] Z wd10 := hM29; clear hM29
    refine nlT ?_
    refine cd hF47 (t := u0.Sent == 256) (by kernel_rfl) (fun hb49 => ?_) (fun hb49 => ?_)
    · -- yes
      have hp50 := hp40.1 hb49; clear hp40
      refine wp_seq ?_
      have hF51 : Fr 80 [] [⟨1, [], .int .i64 u1⟩, ⟨2, [], .pointer (some ⟨b2, 0, none⟩)⟩, ⟨4, [], .pointer (some ⟨b7, 0, none⟩)⟩] a46 := hF47.region (by kernel_rfl) (by kernel_rfl); clear hF47
      refine sqR ?_
      refine st hF51 (.int .i64 u1) (nog rfl _) rfl (by kernel_rfl) (p0 hF51 (by kernel_rfl)) ?_; intro a52 hF53; clear hF51
      refine st hF53 (.bool (u1 == 6)) (nog rfl _) rfl (by kernel_rfl) (p0 hF53 (by kernel_rfl)) ?_; intro a54 hF55; clear hF53
      have hM56 : Mem w.heap.size [] w Z [.row b7 [.int .i64 0, .int .i64 0, .int .i64 0] 28, .row b2 [.int .i64 u0.Sent, .int .i64 u0.Got, .int .i64 u0.Rest] 28] Z wd10 := hM48; clear hM48
      refine nlT ?_
      refine cd hF55 (t := u1 == 6) (by kernel_rfl) (fun hb57 => ?_) (fun hb57 => ?_)
      · -- yes
        have hp58 := hp50.1 hb57; clear hp50
        have hF59 : Fr 80 [] [⟨2, [], .pointer (some ⟨b2, 0, none⟩)⟩, ⟨4, [], .pointer (some ⟨b7, 0, none⟩)⟩] a54 := hF55.region (by kernel_rfl) (by kernel_rfl); clear hF55
        refine wp_region_lit ?_
        refine st hF59 (.pointer (some ⟨b2, 2, none⟩)) (nog rfl _) rfl (by kernel_rfl) (p0 hF59 (by kernel_rfl)) ?_; intro a60 hF61; clear hF59
        refine st hF61 (.int .i64 u0.Rest) (nog rfl _) rfl (by kernel_rfl) (ld hF61 hM56 1 (g := []) (b := b2) (off := 2) (cs := [.int .i64 u0.Sent, .int .i64 u0.Got, .int .i64 u0.Rest]) (ty := 28) rfl (by kernel_rfl) (by kernel_rfl) (by kernel_rfl) (by kernel_rfl) rfl) ?_; intro a62 hF63; clear hF61
        refine st hF63 (.int .i64 (w64 (u0.Rest + 1))) (nog rfl _) rfl (by kernel_rfl) (p0 hF63 (by kernel_rfl)) ?_; intro a64 hF65; clear hF63
        refine st hF65 (.pointer (some ⟨b2, 2, none⟩)) (nog rfl _) rfl (by kernel_rfl) (p0 hF65 (by kernel_rfl)) ?_; intro a66 hF67; clear hF65
        refine sr hF67 hM56 1 [.int .i64 u0.Sent, .int .i64 u0.Got, .int .i64 (w64 (u0.Rest + 1))] (b := b2) (off := 2) (cs := [.int .i64 u0.Sent, .int .i64 u0.Got, .int .i64 u0.Rest]) (ty := 28) (u := .int .i64 (w64 (u0.Rest + 1))) (nog rfl _) rfl rfl (by kernel_rfl) (by kernel_rfl) (by kernel_rfl) (by kernel_rfl) (by kernel_rfl) (by kernel_rfl) (by kernel_rfl) ?_; intro wd68 hM69; clear hM56
        have hM70 : Mem w.heap.size [] w Z [.row b7 [.int .i64 0, .int .i64 0, .int .i64 0] 28, .row b2 [.int .i64 u0.Sent, .int .i64 u0.Got, .int .i64 (w64 (u0.Rest + 1))] 28] Z wd68 := hM69; clear hM69
        refine nl ?_
        refine thn ?_
        refine wp_seq ?_
        have hF71 : Fr 80 [] [⟨2, [], .pointer (some ⟨b2, 0, none⟩)⟩, ⟨4, [], .pointer (some ⟨b7, 0, none⟩)⟩] a66 := hF67.region (by kernel_rfl) (by kernel_rfl); clear hF67
        refine sqR ?_
        refine st hF71 (.pointer (some ⟨b2, 2, none⟩)) (nog rfl _) rfl (by kernel_rfl) (p0 hF71 (by kernel_rfl)) ?_; intro a72 hF73; clear hF71
        refine st hF73 (.int .i64 (w64 (u0.Rest + 1))) (nog rfl _) rfl (by kernel_rfl) (ld hF73 hM70 1 (g := []) (b := b2) (off := 2) (cs := [.int .i64 u0.Sent, .int .i64 u0.Got, .int .i64 (w64 (u0.Rest + 1))]) (ty := 28) rfl (by kernel_rfl) (by kernel_rfl) (by kernel_rfl) (by kernel_rfl) rfl) ?_; intro a74 hF75; clear hF73
        refine st hF75 (.bool ((w64 (u0.Rest + 1)) == 128)) (nog rfl _) rfl (by kernel_rfl) (p0 hF75 (by kernel_rfl)) ?_; intro a76 hF77; clear hF75
        have hM78 : Mem w.heap.size [] w Z [.row b7 [.int .i64 0, .int .i64 0, .int .i64 0] 28, .row b2 [.int .i64 u0.Sent, .int .i64 u0.Got, .int .i64 (w64 (u0.Rest + 1))] 28] Z wd68 := hM70; clear hM70
        refine nlT ?_
        refine cd hF77 (t := (w64 (u0.Rest + 1)) == 128) (by kernel_rfl) (fun hb79 => ?_) (fun hb79 => ?_)
        · -- yes
          have hp80 := hp58.1 hb79; clear hp58
          have hF81 : Fr 80 [] [⟨2, [], .pointer (some ⟨b2, 0, none⟩)⟩, ⟨4, [], .pointer (some ⟨b7, 0, none⟩)⟩] a76 := hF77.region (by kernel_rfl) (by kernel_rfl); clear hF77
          refine wp_region_lit ?_
          refine st hF81 (.agg #[.int .i64 0, .int .i64 0, .int .i64 0]) (nog rfl _) rfl (by kernel_rfl) (p0 hF81 (by kernel_rfl)) ?_; intro a82 hF83; clear hF81
          refine sr hF83 hM78 1 [.int .i64 0, .int .i64 0, .int .i64 0] (b := b2) (off := 0) (cs := [.int .i64 u0.Sent, .int .i64 u0.Got, .int .i64 (w64 (u0.Rest + 1))]) (ty := 28) (u := .agg #[.int .i64 0, .int .i64 0, .int .i64 0]) (nog rfl _) rfl rfl (by kernel_rfl) (by kernel_rfl) (by kernel_rfl) (by kernel_rfl) (by kernel_rfl) (by kernel_rfl) (by kernel_rfl) ?_; intro wd84 hM85; clear hM78
          have hM86 : Mem w.heap.size [] w Z [.row b7 [.int .i64 0, .int .i64 0, .int .i64 0] 28, .row b2 [.int .i64 0, .int .i64 0, .int .i64 0] 28] Z wd84 := hM85; clear hM85
          refine nl ?_
          refine thn ?_
          have hF87 : Fr 80 [] [⟨2, [], .pointer (some ⟨b2, 0, none⟩)⟩, ⟨4, [], .pointer (some ⟨b7, 0, none⟩)⟩] a82 := hF83.region (by kernel_rfl) (by kernel_rfl); clear hF83
          refine sqR ?_
          refine st hF87 (.agg #[.int .i64 0, .int .i64 0, .int .i64 0]) (nog rfl _) rfl (by kernel_rfl) (lda hF87 hM86 1 (g := []) (b := b2) (off := 0) (k := 3) (cs := [.int .i64 0, .int .i64 0, .int .i64 0]) (vs := [.int .i64 0, .int .i64 0, .int .i64 0]) (ty := 28) rfl (by kernel_rfl) (by kernel_rfl) (by kernel_rfl) (by kernel_rfl) (by kernel_rfl) rfl) ?_; intro a88 hF89; clear hF87
          refine sr hF89 hM86 0 [.int .i64 0, .int .i64 0, .int .i64 0] (b := b7) (off := 0) (cs := [.int .i64 0, .int .i64 0, .int .i64 0]) (ty := 28) (u := .agg #[.int .i64 0, .int .i64 0, .int .i64 0]) (nog rfl _) rfl rfl (by kernel_rfl) (by kernel_rfl) (by kernel_rfl) (by kernel_rfl) (by kernel_rfl) (by kernel_rfl) (by kernel_rfl) ?_; intro wd90 hM91; clear hM86
          refine st hF89 (.bool true) (nog rfl _) rfl (by kernel_rfl) (p0 hF89 (by kernel_rfl)) ?_; intro a92 hF93; clear hF89
          have hM94 : Mem w.heap.size [] w Z [.row b7 [.int .i64 0, .int .i64 0, .int .i64 0] 28, .row b2 [.int .i64 0, .int .i64 0, .int .i64 0] 28] Z wd90 := hM91; clear hM91
          refine nlT ?_
          refine wp_ret ?_
          refine thr ?_
          refine rt (fn := Try.f14) (v := .tuple #[.agg #[.int .i64 0, .int .i64 0, .int .i64 0], .bool true]) hF93 (re2c hF93 (fn := Try.f14) rfl (ad := ⟨b7, 0, none⟩) (by kernel_rfl) (loadVar_run hM94 0 (b := b7) (k := 3) (vs := [.int .i64 0, .int .i64 0, .int .i64 0]) (ty := 28) rfl (by kernel_rfl) (by kernel_rfl)) (by kernel_rfl)) ?_
          exact ⟨((⟨0, 0, 0⟩ : Health), true), rfl, hp80, hM94.below⟩
        · -- no
          have hp95 := hp58.2 hb79; clear hp58
          refine wp_skip ?_
          refine thn ?_
          have hF96 : Fr 80 [] [⟨2, [], .pointer (some ⟨b2, 0, none⟩)⟩, ⟨4, [], .pointer (some ⟨b7, 0, none⟩)⟩] a76 := hF77.region (by kernel_rfl) (by kernel_rfl); clear hF77
          refine sqR ?_
          refine st hF96 (.agg #[.int .i64 u0.Sent, .int .i64 u0.Got, .int .i64 (w64 (u0.Rest + 1))]) (nog rfl _) rfl (by kernel_rfl) (lda hF96 hM78 1 (g := []) (b := b2) (off := 0) (k := 3) (cs := [.int .i64 u0.Sent, .int .i64 u0.Got, .int .i64 (w64 (u0.Rest + 1))]) (vs := [.int .i64 u0.Sent, .int .i64 u0.Got, .int .i64 (w64 (u0.Rest + 1))]) (ty := 28) rfl (by kernel_rfl) (by kernel_rfl) (by kernel_rfl) (by kernel_rfl) (by kernel_rfl) rfl) ?_; intro a97 hF98; clear hF96
          refine sr hF98 hM78 0 [.int .i64 u0.Sent, .int .i64 u0.Got, .int .i64 (w64 (u0.Rest + 1))] (b := b7) (off := 0) (cs := [.int .i64 0, .int .i64 0, .int .i64 0]) (ty := 28) (u := .agg #[.int .i64 u0.Sent, .int .i64 u0.Got, .int .i64 (w64 (u0.Rest + 1))]) (nog rfl _) rfl rfl (by kernel_rfl) (by kernel_rfl) (by kernel_rfl) (by kernel_rfl) (by kernel_rfl) (by kernel_rfl) (by kernel_rfl) ?_; intro wd99 hM100; clear hM78
          refine st hF98 (.bool true) (nog rfl _) rfl (by kernel_rfl) (p0 hF98 (by kernel_rfl)) ?_; intro a101 hF102; clear hF98
          have hM103 : Mem w.heap.size [] w Z [.row b7 [.int .i64 u0.Sent, .int .i64 u0.Got, .int .i64 (w64 (u0.Rest + 1))] 28, .row b2 [.int .i64 u0.Sent, .int .i64 u0.Got, .int .i64 (w64 (u0.Rest + 1))] 28] Z wd99 := hM100; clear hM100
          refine nlT ?_
          refine wp_ret ?_
          refine thr ?_
          refine rt (fn := Try.f14) (v := .tuple #[.agg #[.int .i64 u0.Sent, .int .i64 u0.Got, .int .i64 (w64 (u0.Rest + 1))], .bool true]) hF102 (re2c hF102 (fn := Try.f14) rfl (ad := ⟨b7, 0, none⟩) (by kernel_rfl) (loadVar_run hM103 0 (b := b7) (k := 3) (vs := [.int .i64 u0.Sent, .int .i64 u0.Got, .int .i64 (w64 (u0.Rest + 1))]) (ty := 28) rfl (by kernel_rfl) (by kernel_rfl)) (by kernel_rfl)) ?_
          exact ⟨((⟨u0.Sent, u0.Got, w64 (u0.Rest + 1)⟩ : Health), true), rfl, hp95, hM103.below⟩
      · -- no
        have hp104 := hp50.2 hb57; clear hp50
        refine wp_skip ?_
        refine thn ?_
        refine wp_seq ?_
        have hF105 : Fr 80 [] [⟨2, [], .pointer (some ⟨b2, 0, none⟩)⟩, ⟨4, [], .pointer (some ⟨b7, 0, none⟩)⟩] a54 := hF55.region (by kernel_rfl) (by kernel_rfl); clear hF55
        refine sqR ?_
        refine st hF105 (.pointer (some ⟨b2, 2, none⟩)) (nog rfl _) rfl (by kernel_rfl) (p0 hF105 (by kernel_rfl)) ?_; intro a106 hF107; clear hF105
        refine st hF107 (.int .i64 u0.Rest) (nog rfl _) rfl (by kernel_rfl) (ld hF107 hM56 1 (g := []) (b := b2) (off := 2) (cs := [.int .i64 u0.Sent, .int .i64 u0.Got, .int .i64 u0.Rest]) (ty := 28) rfl (by kernel_rfl) (by kernel_rfl) (by kernel_rfl) (by kernel_rfl) rfl) ?_; intro a108 hF109; clear hF107
        refine st hF109 (.bool (u0.Rest == 128)) (nog rfl _) rfl (by kernel_rfl) (p0 hF109 (by kernel_rfl)) ?_; intro a110 hF111; clear hF109
        have hM112 : Mem w.heap.size [] w Z [.row b7 [.int .i64 0, .int .i64 0, .int .i64 0] 28, .row b2 [.int .i64 u0.Sent, .int .i64 u0.Got, .int .i64 u0.Rest] 28] Z wd10 := hM56; clear hM56
        refine nlT ?_
        refine cd hF111 (t := u0.Rest == 128) (by kernel_rfl) (fun hb113 => ?_) (fun hb113 => ?_)
        · -- yes
          have hp114 := hp104.1 hb113; clear hp104
          have hF115 : Fr 80 [] [⟨2, [], .pointer (some ⟨b2, 0, none⟩)⟩, ⟨4, [], .pointer (some ⟨b7, 0, none⟩)⟩] a110 := hF111.region (by kernel_rfl) (by kernel_rfl); clear hF111
          refine wp_region_lit ?_
          refine st hF115 (.agg #[.int .i64 0, .int .i64 0, .int .i64 0]) (nog rfl _) rfl (by kernel_rfl) (p0 hF115 (by kernel_rfl)) ?_; intro a116 hF117; clear hF115
          refine sr hF117 hM112 1 [.int .i64 0, .int .i64 0, .int .i64 0] (b := b2) (off := 0) (cs := [.int .i64 u0.Sent, .int .i64 u0.Got, .int .i64 u0.Rest]) (ty := 28) (u := .agg #[.int .i64 0, .int .i64 0, .int .i64 0]) (nog rfl _) rfl rfl (by kernel_rfl) (by kernel_rfl) (by kernel_rfl) (by kernel_rfl) (by kernel_rfl) (by kernel_rfl) (by kernel_rfl) ?_; intro wd118 hM119; clear hM112
          have hM120 : Mem w.heap.size [] w Z [.row b7 [.int .i64 0, .int .i64 0, .int .i64 0] 28, .row b2 [.int .i64 0, .int .i64 0, .int .i64 0] 28] Z wd118 := hM119; clear hM119
          refine nl ?_
          refine thn ?_
          have hF121 : Fr 80 [] [⟨2, [], .pointer (some ⟨b2, 0, none⟩)⟩, ⟨4, [], .pointer (some ⟨b7, 0, none⟩)⟩] a116 := hF117.region (by kernel_rfl) (by kernel_rfl); clear hF117
          refine sqR ?_
          refine st hF121 (.agg #[.int .i64 0, .int .i64 0, .int .i64 0]) (nog rfl _) rfl (by kernel_rfl) (lda hF121 hM120 1 (g := []) (b := b2) (off := 0) (k := 3) (cs := [.int .i64 0, .int .i64 0, .int .i64 0]) (vs := [.int .i64 0, .int .i64 0, .int .i64 0]) (ty := 28) rfl (by kernel_rfl) (by kernel_rfl) (by kernel_rfl) (by kernel_rfl) (by kernel_rfl) rfl) ?_; intro a122 hF123; clear hF121
          refine sr hF123 hM120 0 [.int .i64 0, .int .i64 0, .int .i64 0] (b := b7) (off := 0) (cs := [.int .i64 0, .int .i64 0, .int .i64 0]) (ty := 28) (u := .agg #[.int .i64 0, .int .i64 0, .int .i64 0]) (nog rfl _) rfl rfl (by kernel_rfl) (by kernel_rfl) (by kernel_rfl) (by kernel_rfl) (by kernel_rfl) (by kernel_rfl) (by kernel_rfl) ?_; intro wd124 hM125; clear hM120
          refine st hF123 (.bool true) (nog rfl _) rfl (by kernel_rfl) (p0 hF123 (by kernel_rfl)) ?_; intro a126 hF127; clear hF123
          have hM128 : Mem w.heap.size [] w Z [.row b7 [.int .i64 0, .int .i64 0, .int .i64 0] 28, .row b2 [.int .i64 0, .int .i64 0, .int .i64 0] 28] Z wd124 := hM125; clear hM125
          refine nlT ?_
          refine wp_ret ?_
          refine thr ?_
          refine rt (fn := Try.f14) (v := .tuple #[.agg #[.int .i64 0, .int .i64 0, .int .i64 0], .bool true]) hF127 (re2c hF127 (fn := Try.f14) rfl (ad := ⟨b7, 0, none⟩) (by kernel_rfl) (loadVar_run hM128 0 (b := b7) (k := 3) (vs := [.int .i64 0, .int .i64 0, .int .i64 0]) (ty := 28) rfl (by kernel_rfl) (by kernel_rfl)) (by kernel_rfl)) ?_
          exact ⟨((⟨0, 0, 0⟩ : Health), true), rfl, hp114, hM128.below⟩
        · -- no
          have hp129 := hp104.2 hb113; clear hp104
          refine wp_skip ?_
          refine thn ?_
          have hF130 : Fr 80 [] [⟨2, [], .pointer (some ⟨b2, 0, none⟩)⟩, ⟨4, [], .pointer (some ⟨b7, 0, none⟩)⟩] a110 := hF111.region (by kernel_rfl) (by kernel_rfl); clear hF111
          refine sqR ?_
          refine st hF130 (.agg #[.int .i64 u0.Sent, .int .i64 u0.Got, .int .i64 u0.Rest]) (nog rfl _) rfl (by kernel_rfl) (lda hF130 hM112 1 (g := []) (b := b2) (off := 0) (k := 3) (cs := [.int .i64 u0.Sent, .int .i64 u0.Got, .int .i64 u0.Rest]) (vs := [.int .i64 u0.Sent, .int .i64 u0.Got, .int .i64 u0.Rest]) (ty := 28) rfl (by kernel_rfl) (by kernel_rfl) (by kernel_rfl) (by kernel_rfl) (by kernel_rfl) rfl) ?_; intro a131 hF132; clear hF130
          refine sr hF132 hM112 0 [.int .i64 u0.Sent, .int .i64 u0.Got, .int .i64 u0.Rest] (b := b7) (off := 0) (cs := [.int .i64 0, .int .i64 0, .int .i64 0]) (ty := 28) (u := .agg #[.int .i64 u0.Sent, .int .i64 u0.Got, .int .i64 u0.Rest]) (nog rfl _) rfl rfl (by kernel_rfl) (by kernel_rfl) (by kernel_rfl) (by kernel_rfl) (by kernel_rfl) (by kernel_rfl) (by kernel_rfl) ?_; intro wd133 hM134; clear hM112
          refine st hF132 (.bool true) (nog rfl _) rfl (by kernel_rfl) (p0 hF132 (by kernel_rfl)) ?_; intro a135 hF136; clear hF132
          have hM137 : Mem w.heap.size [] w Z [.row b7 [.int .i64 u0.Sent, .int .i64 u0.Got, .int .i64 u0.Rest] 28, .row b2 [.int .i64 u0.Sent, .int .i64 u0.Got, .int .i64 u0.Rest] 28] Z wd133 := hM134; clear hM134
          refine nlT ?_
          refine wp_ret ?_
          refine thr ?_
          refine rt (fn := Try.f14) (v := .tuple #[.agg #[.int .i64 u0.Sent, .int .i64 u0.Got, .int .i64 u0.Rest], .bool true]) hF136 (re2c hF136 (fn := Try.f14) rfl (ad := ⟨b7, 0, none⟩) (by kernel_rfl) (loadVar_run hM137 0 (b := b7) (k := 3) (vs := [.int .i64 u0.Sent, .int .i64 u0.Got, .int .i64 u0.Rest]) (ty := 28) rfl (by kernel_rfl) (by kernel_rfl)) (by kernel_rfl)) ?_
          exact ⟨(u0, true), rfl, hp129, hM137.below⟩
    · -- no
      have hp138 := hp40.2 hb49; clear hp40
      refine wp_skip ?_
      refine thn ?_
      refine wp_seq ?_
      have hF139 : Fr 80 [] [⟨1, [], .int .i64 u1⟩, ⟨2, [], .pointer (some ⟨b2, 0, none⟩)⟩, ⟨4, [], .pointer (some ⟨b7, 0, none⟩)⟩] a46 := hF47.region (by kernel_rfl) (by kernel_rfl); clear hF47
      refine sqR ?_
      refine st hF139 (.int .i64 u1) (nog rfl _) rfl (by kernel_rfl) (p0 hF139 (by kernel_rfl)) ?_; intro a140 hF141; clear hF139
      have hM142 : Mem w.heap.size [] w Z [.row b7 [.int .i64 0, .int .i64 0, .int .i64 0] 28, .row b2 [.int .i64 u0.Sent, .int .i64 u0.Got, .int .i64 u0.Rest] 28] Z wd10 := hM48; clear hM48
      refine nlT ?_
      refine wp_block ?_
      have hF143 : Fr 80 [] [⟨2, [], .pointer (some ⟨b2, 0, none⟩)⟩, ⟨4, [], .pointer (some ⟨b7, 0, none⟩)⟩, ⟨27, [], .int .i64 u1⟩] a140 := hF141.region (by kernel_rfl) (by kernel_rfl); clear hF141
      refine sqR ?_
      refine st hF143 (.bool (u1 == 1)) (nog rfl _) rfl (by kernel_rfl) (p0 hF143 (by kernel_rfl)) ?_; intro a144 hF145; clear hF143
      refine st hF145 (.bool (u1 == 1)) (nog rfl _) rfl (by kernel_rfl) (p0 hF145 (by kernel_rfl)) ?_; intro a146 hF147; clear hF145
      have hM148 : Mem w.heap.size [] w Z [.row b7 [.int .i64 0, .int .i64 0, .int .i64 0] 28, .row b2 [.int .i64 u0.Sent, .int .i64 u0.Got, .int .i64 u0.Rest] 28] Z wd10 := hM142; clear hM142
      refine nlT ?_
      refine cd hF147 (t := u1 == 1) (by kernel_rfl) (fun hb149 => ?_) (fun hb149 => ?_)
      · -- yes
        have hp150 := hp138.1 hb149; clear hp138
        have hF151 : Fr 80 [] [⟨2, [], .pointer (some ⟨b2, 0, none⟩)⟩, ⟨4, [], .pointer (some ⟨b7, 0, none⟩)⟩] a146 := hF147.region (by kernel_rfl) (by kernel_rfl); clear hF147
        refine sqR ?_
        refine st hF151 (.pointer (some ⟨b2, 0, none⟩)) (nog rfl _) rfl (by kernel_rfl) (p0 hF151 (by kernel_rfl)) ?_; intro a152 hF153; clear hF151
        refine st hF153 (.int .i64 u0.Sent) (nog rfl _) rfl (by kernel_rfl) (ld hF153 hM148 1 (g := []) (b := b2) (off := 0) (cs := [.int .i64 u0.Sent, .int .i64 u0.Got, .int .i64 u0.Rest]) (ty := 28) rfl (by kernel_rfl) (by kernel_rfl) (by kernel_rfl) (by kernel_rfl) rfl) ?_; intro a154 hF155; clear hF153
        refine st hF155 (.bool (decide (u0.Sent > 0))) (nog rfl _) rfl (by kernel_rfl) (p0 hF155 (by kernel_rfl)) ?_; intro a156 hF157; clear hF155
        have hM158 : Mem w.heap.size [] w Z [.row b7 [.int .i64 0, .int .i64 0, .int .i64 0] 28, .row b2 [.int .i64 u0.Sent, .int .i64 u0.Got, .int .i64 u0.Rest] 28] Z wd10 := hM148; clear hM148
        refine nlT ?_
        refine cd hF157 (t := decide (u0.Sent > 0)) (by kernel_rfl) (fun hb159 => ?_) (fun hb159 => ?_)
        · -- yes
          have hp160 := hp150.1 hb159; clear hp150
          have hF161 : Fr 80 [] [⟨2, [], .pointer (some ⟨b2, 0, none⟩)⟩, ⟨4, [], .pointer (some ⟨b7, 0, none⟩)⟩] a156 := hF157.region (by kernel_rfl) (by kernel_rfl); clear hF157
          refine wp_region_lit ?_
          refine st hF161 (.pointer (some ⟨b2, 0, none⟩)) (nog rfl _) rfl (by kernel_rfl) (p0 hF161 (by kernel_rfl)) ?_; intro a162 hF163; clear hF161
          refine st hF163 (.int .i64 u0.Sent) (nog rfl _) rfl (by kernel_rfl) (ld hF163 hM158 1 (g := []) (b := b2) (off := 0) (cs := [.int .i64 u0.Sent, .int .i64 u0.Got, .int .i64 u0.Rest]) (ty := 28) rfl (by kernel_rfl) (by kernel_rfl) (by kernel_rfl) (by kernel_rfl) rfl) ?_; intro a164 hF165; clear hF163
          refine st hF165 (.int .i64 (w64 (u0.Sent - 1))) (nog rfl _) rfl (by kernel_rfl) (p0 hF165 (by kernel_rfl)) ?_; intro a166 hF167; clear hF165
          refine st hF167 (.pointer (some ⟨b2, 0, none⟩)) (nog rfl _) rfl (by kernel_rfl) (p0 hF167 (by kernel_rfl)) ?_; intro a168 hF169; clear hF167
          refine sr hF169 hM158 1 [.int .i64 (w64 (u0.Sent - 1)), .int .i64 u0.Got, .int .i64 u0.Rest] (b := b2) (off := 0) (cs := [.int .i64 u0.Sent, .int .i64 u0.Got, .int .i64 u0.Rest]) (ty := 28) (u := .int .i64 (w64 (u0.Sent - 1))) (nog rfl _) rfl rfl (by kernel_rfl) (by kernel_rfl) (by kernel_rfl) (by kernel_rfl) (by kernel_rfl) (by kernel_rfl) (by kernel_rfl) ?_; intro wd170 hM171; clear hM158
          have hM172 : Mem w.heap.size [] w Z [.row b7 [.int .i64 0, .int .i64 0, .int .i64 0] 28, .row b2 [.int .i64 (w64 (u0.Sent - 1)), .int .i64 u0.Got, .int .i64 u0.Rest] 28] Z wd170 := hM171; clear hM171
          refine nl ?_
          refine ibn ?_
          refine thn ?_
          have hF173 : Fr 80 [] [⟨2, [], .pointer (some ⟨b2, 0, none⟩)⟩, ⟨4, [], .pointer (some ⟨b7, 0, none⟩)⟩] a168 := hF169.region (by kernel_rfl) (by kernel_rfl); clear hF169
          refine sqR ?_
          refine st hF173 (.agg #[.int .i64 (w64 (u0.Sent - 1)), .int .i64 u0.Got, .int .i64 u0.Rest]) (nog rfl _) rfl (by kernel_rfl) (lda hF173 hM172 1 (g := []) (b := b2) (off := 0) (k := 3) (cs := [.int .i64 (w64 (u0.Sent - 1)), .int .i64 u0.Got, .int .i64 u0.Rest]) (vs := [.int .i64 (w64 (u0.Sent - 1)), .int .i64 u0.Got, .int .i64 u0.Rest]) (ty := 28) rfl (by kernel_rfl) (by kernel_rfl) (by kernel_rfl) (by kernel_rfl) (by kernel_rfl) rfl) ?_; intro a174 hF175; clear hF173
          refine sr hF175 hM172 0 [.int .i64 (w64 (u0.Sent - 1)), .int .i64 u0.Got, .int .i64 u0.Rest] (b := b7) (off := 0) (cs := [.int .i64 0, .int .i64 0, .int .i64 0]) (ty := 28) (u := .agg #[.int .i64 (w64 (u0.Sent - 1)), .int .i64 u0.Got, .int .i64 u0.Rest]) (nog rfl _) rfl rfl (by kernel_rfl) (by kernel_rfl) (by kernel_rfl) (by kernel_rfl) (by kernel_rfl) (by kernel_rfl) (by kernel_rfl) ?_; intro wd176 hM177; clear hM172
          refine st hF175 (.bool true) (nog rfl _) rfl (by kernel_rfl) (p0 hF175 (by kernel_rfl)) ?_; intro a178 hF179; clear hF175
          have hM180 : Mem w.heap.size [] w Z [.row b7 [.int .i64 (w64 (u0.Sent - 1)), .int .i64 u0.Got, .int .i64 u0.Rest] 28, .row b2 [.int .i64 (w64 (u0.Sent - 1)), .int .i64 u0.Got, .int .i64 u0.Rest] 28] Z wd176 := hM177; clear hM177
          refine nlT ?_
          refine wp_ret ?_
          refine rt (fn := Try.f14) (v := .tuple #[.agg #[.int .i64 (w64 (u0.Sent - 1)), .int .i64 u0.Got, .int .i64 u0.Rest], .bool true]) hF179 (re2c hF179 (fn := Try.f14) rfl (ad := ⟨b7, 0, none⟩) (by kernel_rfl) (loadVar_run hM180 0 (b := b7) (k := 3) (vs := [.int .i64 (w64 (u0.Sent - 1)), .int .i64 u0.Got, .int .i64 u0.Rest]) (ty := 28) rfl (by kernel_rfl) (by kernel_rfl)) (by kernel_rfl)) ?_
          exact ⟨((⟨w64 (u0.Sent - 1), u0.Got, u0.Rest⟩ : Health), true), rfl, hp160, hM180.below⟩
        · -- no
          have hp181 := hp150.2 hb159; clear hp150
          refine wp_skip ?_
          refine ibn ?_
          refine thn ?_
          have hF182 : Fr 80 [] [⟨2, [], .pointer (some ⟨b2, 0, none⟩)⟩, ⟨4, [], .pointer (some ⟨b7, 0, none⟩)⟩] a156 := hF157.region (by kernel_rfl) (by kernel_rfl); clear hF157
          refine sqR ?_
          refine st hF182 (.agg #[.int .i64 u0.Sent, .int .i64 u0.Got, .int .i64 u0.Rest]) (nog rfl _) rfl (by kernel_rfl) (lda hF182 hM158 1 (g := []) (b := b2) (off := 0) (k := 3) (cs := [.int .i64 u0.Sent, .int .i64 u0.Got, .int .i64 u0.Rest]) (vs := [.int .i64 u0.Sent, .int .i64 u0.Got, .int .i64 u0.Rest]) (ty := 28) rfl (by kernel_rfl) (by kernel_rfl) (by kernel_rfl) (by kernel_rfl) (by kernel_rfl) rfl) ?_; intro a183 hF184; clear hF182
          refine sr hF184 hM158 0 [.int .i64 u0.Sent, .int .i64 u0.Got, .int .i64 u0.Rest] (b := b7) (off := 0) (cs := [.int .i64 0, .int .i64 0, .int .i64 0]) (ty := 28) (u := .agg #[.int .i64 u0.Sent, .int .i64 u0.Got, .int .i64 u0.Rest]) (nog rfl _) rfl rfl (by kernel_rfl) (by kernel_rfl) (by kernel_rfl) (by kernel_rfl) (by kernel_rfl) (by kernel_rfl) (by kernel_rfl) ?_; intro wd185 hM186; clear hM158
          refine st hF184 (.bool true) (nog rfl _) rfl (by kernel_rfl) (p0 hF184 (by kernel_rfl)) ?_; intro a187 hF188; clear hF184
          have hM189 : Mem w.heap.size [] w Z [.row b7 [.int .i64 u0.Sent, .int .i64 u0.Got, .int .i64 u0.Rest] 28, .row b2 [.int .i64 u0.Sent, .int .i64 u0.Got, .int .i64 u0.Rest] 28] Z wd185 := hM186; clear hM186
          refine nlT ?_
          refine wp_ret ?_
          refine rt (fn := Try.f14) (v := .tuple #[.agg #[.int .i64 u0.Sent, .int .i64 u0.Got, .int .i64 u0.Rest], .bool true]) hF188 (re2c hF188 (fn := Try.f14) rfl (ad := ⟨b7, 0, none⟩) (by kernel_rfl) (loadVar_run hM189 0 (b := b7) (k := 3) (vs := [.int .i64 u0.Sent, .int .i64 u0.Got, .int .i64 u0.Rest]) (ty := 28) rfl (by kernel_rfl) (by kernel_rfl)) (by kernel_rfl)) ?_
          exact ⟨(u0, true), rfl, hp181, hM189.below⟩
      · -- no
        have hp190 := hp138.2 hb149; clear hp138
        have hF191 : Fr 80 [] [⟨2, [], .pointer (some ⟨b2, 0, none⟩)⟩, ⟨4, [], .pointer (some ⟨b7, 0, none⟩)⟩, ⟨27, [], .int .i64 u1⟩] a146 := hF147.region (by kernel_rfl) (by kernel_rfl); clear hF147
        refine sqR ?_
        refine st hF191 (.bool (u1 == 2)) (nog rfl _) rfl (by kernel_rfl) (p0 hF191 (by kernel_rfl)) ?_; intro a192 hF193; clear hF191
        refine st hF193 (.bool (u1 == 2)) (nog rfl _) rfl (by kernel_rfl) (p0 hF193 (by kernel_rfl)) ?_; intro a194 hF195; clear hF193
        have hM196 : Mem w.heap.size [] w Z [.row b7 [.int .i64 0, .int .i64 0, .int .i64 0] 28, .row b2 [.int .i64 u0.Sent, .int .i64 u0.Got, .int .i64 u0.Rest] 28] Z wd10 := hM148; clear hM148
        refine nlT ?_
        refine cd hF195 (t := u1 == 2) (by kernel_rfl) (fun hb197 => ?_) (fun hb197 => ?_)
        · -- yes
          have hp198 := hp190.1 hb197; clear hp190
          have hF199 : Fr 80 [] [⟨2, [], .pointer (some ⟨b2, 0, none⟩)⟩, ⟨4, [], .pointer (some ⟨b7, 0, none⟩)⟩] a194 := hF195.region (by kernel_rfl) (by kernel_rfl); clear hF195
          refine sqR ?_
          refine st hF199 (.pointer (some ⟨b2, 1, none⟩)) (nog rfl _) rfl (by kernel_rfl) (p0 hF199 (by kernel_rfl)) ?_; intro a200 hF201; clear hF199
          refine st hF201 (.int .i64 u0.Got) (nog rfl _) rfl (by kernel_rfl) (ld hF201 hM196 1 (g := []) (b := b2) (off := 1) (cs := [.int .i64 u0.Sent, .int .i64 u0.Got, .int .i64 u0.Rest]) (ty := 28) rfl (by kernel_rfl) (by kernel_rfl) (by kernel_rfl) (by kernel_rfl) rfl) ?_; intro a202 hF203; clear hF201
          refine st hF203 (.bool (decide (u0.Got > 127))) (nog rfl _) rfl (by kernel_rfl) (p0 hF203 (by kernel_rfl)) ?_; intro a204 hF205; clear hF203
          have hM206 : Mem w.heap.size [] w Z [.row b7 [.int .i64 0, .int .i64 0, .int .i64 0] 28, .row b2 [.int .i64 u0.Sent, .int .i64 u0.Got, .int .i64 u0.Rest] 28] Z wd10 := hM196; clear hM196
          refine nlT ?_
          refine cd hF205 (t := decide (u0.Got > 127)) (by kernel_rfl) (fun hb207 => ?_) (fun hb207 => ?_)
          · -- yes
            have hp208 := hp198.1 hb207; clear hp198
            have hF209 : Fr 80 [] [⟨2, [], .pointer (some ⟨b2, 0, none⟩)⟩, ⟨4, [], .pointer (some ⟨b7, 0, none⟩)⟩] a204 := hF205.region (by kernel_rfl) (by kernel_rfl); clear hF205
            refine wp_region_lit ?_
            refine st hF209 (.pointer (some ⟨b2, 1, none⟩)) (nog rfl _) rfl (by kernel_rfl) (p0 hF209 (by kernel_rfl)) ?_; intro a210 hF211; clear hF209
            refine sr hF211 hM206 1 [.int .i64 u0.Sent, .int .i64 126, .int .i64 u0.Rest] (b := b2) (off := 1) (cs := [.int .i64 u0.Sent, .int .i64 u0.Got, .int .i64 u0.Rest]) (ty := 28) (u := .int .i64 126) (nog rfl _) rfl rfl (by kernel_rfl) (by kernel_rfl) (by kernel_rfl) (by kernel_rfl) (by kernel_rfl) (by kernel_rfl) (by kernel_rfl) ?_; intro wd212 hM213; clear hM206
            have hM214 : Mem w.heap.size [] w Z [.row b7 [.int .i64 0, .int .i64 0, .int .i64 0] 28, .row b2 [.int .i64 u0.Sent, .int .i64 126, .int .i64 u0.Rest] 28] Z wd212 := hM213; clear hM213
            refine nl ?_
            refine ibn ?_
            refine thn ?_
            have hF215 : Fr 80 [] [⟨2, [], .pointer (some ⟨b2, 0, none⟩)⟩, ⟨4, [], .pointer (some ⟨b7, 0, none⟩)⟩] a210 := hF211.region (by kernel_rfl) (by kernel_rfl); clear hF211
            refine sqR ?_
            refine st hF215 (.agg #[.int .i64 u0.Sent, .int .i64 126, .int .i64 u0.Rest]) (nog rfl _) rfl (by kernel_rfl) (lda hF215 hM214 1 (g := []) (b := b2) (off := 0) (k := 3) (cs := [.int .i64 u0.Sent, .int .i64 126, .int .i64 u0.Rest]) (vs := [.int .i64 u0.Sent, .int .i64 126, .int .i64 u0.Rest]) (ty := 28) rfl (by kernel_rfl) (by kernel_rfl) (by kernel_rfl) (by kernel_rfl) (by kernel_rfl) rfl) ?_; intro a216 hF217; clear hF215
            refine sr hF217 hM214 0 [.int .i64 u0.Sent, .int .i64 126, .int .i64 u0.Rest] (b := b7) (off := 0) (cs := [.int .i64 0, .int .i64 0, .int .i64 0]) (ty := 28) (u := .agg #[.int .i64 u0.Sent, .int .i64 126, .int .i64 u0.Rest]) (nog rfl _) rfl rfl (by kernel_rfl) (by kernel_rfl) (by kernel_rfl) (by kernel_rfl) (by kernel_rfl) (by kernel_rfl) (by kernel_rfl) ?_; intro wd218 hM219; clear hM214
            refine st hF217 (.bool true) (nog rfl _) rfl (by kernel_rfl) (p0 hF217 (by kernel_rfl)) ?_; intro a220 hF221; clear hF217
            have hM222 : Mem w.heap.size [] w Z [.row b7 [.int .i64 u0.Sent, .int .i64 126, .int .i64 u0.Rest] 28, .row b2 [.int .i64 u0.Sent, .int .i64 126, .int .i64 u0.Rest] 28] Z wd218 := hM219; clear hM219
            refine nlT ?_
            refine wp_ret ?_
            refine rt (fn := Try.f14) (v := .tuple #[.agg #[.int .i64 u0.Sent, .int .i64 126, .int .i64 u0.Rest], .bool true]) hF221 (re2c hF221 (fn := Try.f14) rfl (ad := ⟨b7, 0, none⟩) (by kernel_rfl) (loadVar_run hM222 0 (b := b7) (k := 3) (vs := [.int .i64 u0.Sent, .int .i64 126, .int .i64 u0.Rest]) (ty := 28) rfl (by kernel_rfl) (by kernel_rfl)) (by kernel_rfl)) ?_
            exact ⟨((⟨u0.Sent, 126, u0.Rest⟩ : Health), true), rfl, hp208, hM222.below⟩
          · -- no
            have hp223 := hp198.2 hb207; clear hp198
            have hF224 : Fr 80 [] [⟨2, [], .pointer (some ⟨b2, 0, none⟩)⟩, ⟨4, [], .pointer (some ⟨b7, 0, none⟩)⟩] a204 := hF205.region (by kernel_rfl) (by kernel_rfl); clear hF205
            refine sqR ?_
            refine st hF224 (.pointer (some ⟨b2, 1, none⟩)) (nog rfl _) rfl (by kernel_rfl) (p0 hF224 (by kernel_rfl)) ?_; intro a225 hF226; clear hF224
            refine st hF226 (.int .i64 u0.Got) (nog rfl _) rfl (by kernel_rfl) (ld hF226 hM206 1 (g := []) (b := b2) (off := 1) (cs := [.int .i64 u0.Sent, .int .i64 u0.Got, .int .i64 u0.Rest]) (ty := 28) rfl (by kernel_rfl) (by kernel_rfl) (by kernel_rfl) (by kernel_rfl) rfl) ?_; intro a227 hF228; clear hF226
            refine st hF228 (.bool (decide (u0.Got > 0))) (nog rfl _) rfl (by kernel_rfl) (p0 hF228 (by kernel_rfl)) ?_; intro a229 hF230; clear hF228
            have hM231 : Mem w.heap.size [] w Z [.row b7 [.int .i64 0, .int .i64 0, .int .i64 0] 28, .row b2 [.int .i64 u0.Sent, .int .i64 u0.Got, .int .i64 u0.Rest] 28] Z wd10 := hM206; clear hM206
            refine nlT ?_
            refine cd hF230 (t := decide (u0.Got > 0)) (by kernel_rfl) (fun hb232 => ?_) (fun hb232 => ?_)
            · -- yes
              have hp233 := hp223.1 hb232; clear hp223
              have hF234 : Fr 80 [] [⟨2, [], .pointer (some ⟨b2, 0, none⟩)⟩, ⟨4, [], .pointer (some ⟨b7, 0, none⟩)⟩] a229 := hF230.region (by kernel_rfl) (by kernel_rfl); clear hF230
              refine wp_region_lit ?_
              refine st hF234 (.pointer (some ⟨b2, 1, none⟩)) (nog rfl _) rfl (by kernel_rfl) (p0 hF234 (by kernel_rfl)) ?_; intro a235 hF236; clear hF234
              refine st hF236 (.int .i64 u0.Got) (nog rfl _) rfl (by kernel_rfl) (ld hF236 hM231 1 (g := []) (b := b2) (off := 1) (cs := [.int .i64 u0.Sent, .int .i64 u0.Got, .int .i64 u0.Rest]) (ty := 28) rfl (by kernel_rfl) (by kernel_rfl) (by kernel_rfl) (by kernel_rfl) rfl) ?_; intro a237 hF238; clear hF236
              refine st hF238 (.int .i64 (w64 (u0.Got - 1))) (nog rfl _) rfl (by kernel_rfl) (p0 hF238 (by kernel_rfl)) ?_; intro a239 hF240; clear hF238
              refine st hF240 (.pointer (some ⟨b2, 1, none⟩)) (nog rfl _) rfl (by kernel_rfl) (p0 hF240 (by kernel_rfl)) ?_; intro a241 hF242; clear hF240
              refine sr hF242 hM231 1 [.int .i64 u0.Sent, .int .i64 (w64 (u0.Got - 1)), .int .i64 u0.Rest] (b := b2) (off := 1) (cs := [.int .i64 u0.Sent, .int .i64 u0.Got, .int .i64 u0.Rest]) (ty := 28) (u := .int .i64 (w64 (u0.Got - 1))) (nog rfl _) rfl rfl (by kernel_rfl) (by kernel_rfl) (by kernel_rfl) (by kernel_rfl) (by kernel_rfl) (by kernel_rfl) (by kernel_rfl) ?_; intro wd243 hM244; clear hM231
              have hM245 : Mem w.heap.size [] w Z [.row b7 [.int .i64 0, .int .i64 0, .int .i64 0] 28, .row b2 [.int .i64 u0.Sent, .int .i64 (w64 (u0.Got - 1)), .int .i64 u0.Rest] 28] Z wd243 := hM244; clear hM244
              refine nl ?_
              refine ibn ?_
              refine thn ?_
              have hF246 : Fr 80 [] [⟨2, [], .pointer (some ⟨b2, 0, none⟩)⟩, ⟨4, [], .pointer (some ⟨b7, 0, none⟩)⟩] a241 := hF242.region (by kernel_rfl) (by kernel_rfl); clear hF242
              refine sqR ?_
              refine st hF246 (.agg #[.int .i64 u0.Sent, .int .i64 (w64 (u0.Got - 1)), .int .i64 u0.Rest]) (nog rfl _) rfl (by kernel_rfl) (lda hF246 hM245 1 (g := []) (b := b2) (off := 0) (k := 3) (cs := [.int .i64 u0.Sent, .int .i64 (w64 (u0.Got - 1)), .int .i64 u0.Rest]) (vs := [.int .i64 u0.Sent, .int .i64 (w64 (u0.Got - 1)), .int .i64 u0.Rest]) (ty := 28) rfl (by kernel_rfl) (by kernel_rfl) (by kernel_rfl) (by kernel_rfl) (by kernel_rfl) rfl) ?_; intro a247 hF248; clear hF246
              refine sr hF248 hM245 0 [.int .i64 u0.Sent, .int .i64 (w64 (u0.Got - 1)), .int .i64 u0.Rest] (b := b7) (off := 0) (cs := [.int .i64 0, .int .i64 0, .int .i64 0]) (ty := 28) (u := .agg #[.int .i64 u0.Sent, .int .i64 (w64 (u0.Got - 1)), .int .i64 u0.Rest]) (nog rfl _) rfl rfl (by kernel_rfl) (by kernel_rfl) (by kernel_rfl) (by kernel_rfl) (by kernel_rfl) (by kernel_rfl) (by kernel_rfl) ?_; intro wd249 hM250; clear hM245
              refine st hF248 (.bool true) (nog rfl _) rfl (by kernel_rfl) (p0 hF248 (by kernel_rfl)) ?_; intro a251 hF252; clear hF248
              have hM253 : Mem w.heap.size [] w Z [.row b7 [.int .i64 u0.Sent, .int .i64 (w64 (u0.Got - 1)), .int .i64 u0.Rest] 28, .row b2 [.int .i64 u0.Sent, .int .i64 (w64 (u0.Got - 1)), .int .i64 u0.Rest] 28] Z wd249 := hM250; clear hM250
              refine nlT ?_
              refine wp_ret ?_
              refine rt (fn := Try.f14) (v := .tuple #[.agg #[.int .i64 u0.Sent, .int .i64 (w64 (u0.Got - 1)), .int .i64 u0.Rest], .bool true]) hF252 (re2c hF252 (fn := Try.f14) rfl (ad := ⟨b7, 0, none⟩) (by kernel_rfl) (loadVar_run hM253 0 (b := b7) (k := 3) (vs := [.int .i64 u0.Sent, .int .i64 (w64 (u0.Got - 1)), .int .i64 u0.Rest]) (ty := 28) rfl (by kernel_rfl) (by kernel_rfl)) (by kernel_rfl)) ?_
              exact ⟨((⟨u0.Sent, w64 (u0.Got - 1), u0.Rest⟩ : Health), true), rfl, hp233, hM253.below⟩
            · -- no
              have hp254 := hp223.2 hb232; clear hp223
              refine wp_skip ?_
              refine ibn ?_
              refine thn ?_
              have hF255 : Fr 80 [] [⟨2, [], .pointer (some ⟨b2, 0, none⟩)⟩, ⟨4, [], .pointer (some ⟨b7, 0, none⟩)⟩] a229 := hF230.region (by kernel_rfl) (by kernel_rfl); clear hF230
              refine sqR ?_
              refine st hF255 (.agg #[.int .i64 u0.Sent, .int .i64 u0.Got, .int .i64 u0.Rest]) (nog rfl _) rfl (by kernel_rfl) (lda hF255 hM231 1 (g := []) (b := b2) (off := 0) (k := 3) (cs := [.int .i64 u0.Sent, .int .i64 u0.Got, .int .i64 u0.Rest]) (vs := [.int .i64 u0.Sent, .int .i64 u0.Got, .int .i64 u0.Rest]) (ty := 28) rfl (by kernel_rfl) (by kernel_rfl) (by kernel_rfl) (by kernel_rfl) (by kernel_rfl) rfl) ?_; intro a256 hF257; clear hF255
              refine sr hF257 hM231 0 [.int .i64 u0.Sent, .int .i64 u0.Got, .int .i64 u0.Rest] (b := b7) (off := 0) (cs := [.int .i64 0, .int .i64 0, .int .i64 0]) (ty := 28) (u := .agg #[.int .i64 u0.Sent, .int .i64 u0.Got, .int .i64 u0.Rest]) (nog rfl _) rfl rfl (by kernel_rfl) (by kernel_rfl) (by kernel_rfl) (by kernel_rfl) (by kernel_rfl) (by kernel_rfl) (by kernel_rfl) ?_; intro wd258 hM259; clear hM231
              refine st hF257 (.bool true) (nog rfl _) rfl (by kernel_rfl) (p0 hF257 (by kernel_rfl)) ?_; intro a260 hF261; clear hF257
              have hM262 : Mem w.heap.size [] w Z [.row b7 [.int .i64 u0.Sent, .int .i64 u0.Got, .int .i64 u0.Rest] 28, .row b2 [.int .i64 u0.Sent, .int .i64 u0.Got, .int .i64 u0.Rest] 28] Z wd258 := hM259; clear hM259
              refine nlT ?_
              refine wp_ret ?_
              refine rt (fn := Try.f14) (v := .tuple #[.agg #[.int .i64 u0.Sent, .int .i64 u0.Got, .int .i64 u0.Rest], .bool true]) hF261 (re2c hF261 (fn := Try.f14) rfl (ad := ⟨b7, 0, none⟩) (by kernel_rfl) (loadVar_run hM262 0 (b := b7) (k := 3) (vs := [.int .i64 u0.Sent, .int .i64 u0.Got, .int .i64 u0.Rest]) (ty := 28) rfl (by kernel_rfl) (by kernel_rfl)) (by kernel_rfl)) ?_
              exact ⟨(u0, true), rfl, hp254, hM262.below⟩
        · -- no
          have hp263 := hp190.2 hb197; clear hp190
          have hF264 : Fr 80 [] [⟨2, [], .pointer (some ⟨b2, 0, none⟩)⟩, ⟨4, [], .pointer (some ⟨b7, 0, none⟩)⟩, ⟨27, [], .int .i64 u1⟩] a194 := hF195.region (by kernel_rfl) (by kernel_rfl); clear hF195
          refine sqR ?_
          refine st hF264 (.bool (u1 == 3)) (nog rfl _) rfl (by kernel_rfl) (p0 hF264 (by kernel_rfl)) ?_; intro a265 hF266; clear hF264
          refine st hF266 (.bool (u1 == 3)) (nog rfl _) rfl (by kernel_rfl) (p0 hF266 (by kernel_rfl)) ?_; intro a267 hF268; clear hF266
          have hM269 : Mem w.heap.size [] w Z [.row b7 [.int .i64 0, .int .i64 0, .int .i64 0] 28, .row b2 [.int .i64 u0.Sent, .int .i64 u0.Got, .int .i64 u0.Rest] 28] Z wd10 := hM196; clear hM196
          refine nlT ?_
          refine cd hF268 (t := u1 == 3) (by kernel_rfl) (fun hb270 => ?_) (fun hb270 => ?_)
          · -- yes
            have hp271 := hp263.1 hb270; clear hp263
            have hF272 : Fr 80 [] [⟨2, [], .pointer (some ⟨b2, 0, none⟩)⟩, ⟨4, [], .pointer (some ⟨b7, 0, none⟩)⟩] a267 := hF268.region (by kernel_rfl) (by kernel_rfl); clear hF268
            refine sqR ?_
            refine st hF272 (.pointer (some ⟨b2, 0, none⟩)) (nog rfl _) rfl (by kernel_rfl) (p0 hF272 (by kernel_rfl)) ?_; intro a273 hF274; clear hF272
            refine st hF274 (.int .i64 u0.Sent) (nog rfl _) rfl (by kernel_rfl) (ld hF274 hM269 1 (g := []) (b := b2) (off := 0) (cs := [.int .i64 u0.Sent, .int .i64 u0.Got, .int .i64 u0.Rest]) (ty := 28) rfl (by kernel_rfl) (by kernel_rfl) (by kernel_rfl) (by kernel_rfl) rfl) ?_; intro a275 hF276; clear hF274
            refine st hF276 (.int .i64 (w64 (u0.Sent + 8))) (nog rfl _) rfl (by kernel_rfl) (p0 hF276 (by kernel_rfl)) ?_; intro a277 hF278; clear hF276
            refine st hF278 (.pointer (some ⟨b2, 0, none⟩)) (nog rfl _) rfl (by kernel_rfl) (p0 hF278 (by kernel_rfl)) ?_; intro a279 hF280; clear hF278
            refine sr hF280 hM269 1 [.int .i64 (w64 (u0.Sent + 8)), .int .i64 u0.Got, .int .i64 u0.Rest] (b := b2) (off := 0) (cs := [.int .i64 u0.Sent, .int .i64 u0.Got, .int .i64 u0.Rest]) (ty := 28) (u := .int .i64 (w64 (u0.Sent + 8))) (nog rfl _) rfl rfl (by kernel_rfl) (by kernel_rfl) (by kernel_rfl) (by kernel_rfl) (by kernel_rfl) (by kernel_rfl) (by kernel_rfl) ?_; intro wd281 hM282; clear hM269
            have hM283 : Mem w.heap.size [] w Z [.row b7 [.int .i64 0, .int .i64 0, .int .i64 0] 28, .row b2 [.int .i64 (w64 (u0.Sent + 8)), .int .i64 u0.Got, .int .i64 u0.Rest] 28] Z wd281 := hM282; clear hM282
            refine nlT ?_
            have hF284 : Fr 80 [] [⟨2, [], .pointer (some ⟨b2, 0, none⟩)⟩, ⟨4, [], .pointer (some ⟨b7, 0, none⟩)⟩] a279 := hF280.region (by kernel_rfl) (by kernel_rfl); clear hF280
            refine sqR ?_
            refine st hF284 (.pointer (some ⟨b2, 0, none⟩)) (nog rfl _) rfl (by kernel_rfl) (p0 hF284 (by kernel_rfl)) ?_; intro a285 hF286; clear hF284
            refine st hF286 (.int .i64 (w64 (u0.Sent + 8))) (nog rfl _) rfl (by kernel_rfl) (ld hF286 hM283 1 (g := []) (b := b2) (off := 0) (cs := [.int .i64 (w64 (u0.Sent + 8)), .int .i64 u0.Got, .int .i64 u0.Rest]) (ty := 28) rfl (by kernel_rfl) (by kernel_rfl) (by kernel_rfl) (by kernel_rfl) rfl) ?_; intro a287 hF288; clear hF286
            refine st hF288 (.bool (decide ((w64 (u0.Sent + 8)) > 256))) (nog rfl _) rfl (by kernel_rfl) (p0 hF288 (by kernel_rfl)) ?_; intro a289 hF290; clear hF288
            have hM291 : Mem w.heap.size [] w Z [.row b7 [.int .i64 0, .int .i64 0, .int .i64 0] 28, .row b2 [.int .i64 (w64 (u0.Sent + 8)), .int .i64 u0.Got, .int .i64 u0.Rest] 28] Z wd281 := hM283; clear hM283
            refine nlT ?_
            refine cd hF290 (t := decide ((w64 (u0.Sent + 8)) > 256)) (by kernel_rfl) (fun hb292 => ?_) (fun hb292 => ?_)
            · -- yes
              have hp293 := hp271.1 hb292; clear hp271
              have hF294 : Fr 80 [] [⟨2, [], .pointer (some ⟨b2, 0, none⟩)⟩, ⟨4, [], .pointer (some ⟨b7, 0, none⟩)⟩] a289 := hF290.region (by kernel_rfl) (by kernel_rfl); clear hF290
              refine wp_region_lit ?_
              refine st hF294 (.pointer (some ⟨b2, 0, none⟩)) (nog rfl _) rfl (by kernel_rfl) (p0 hF294 (by kernel_rfl)) ?_; intro a295 hF296; clear hF294
              refine sr hF296 hM291 1 [.int .i64 256, .int .i64 u0.Got, .int .i64 u0.Rest] (b := b2) (off := 0) (cs := [.int .i64 (w64 (u0.Sent + 8)), .int .i64 u0.Got, .int .i64 u0.Rest]) (ty := 28) (u := .int .i64 256) (nog rfl _) rfl rfl (by kernel_rfl) (by kernel_rfl) (by kernel_rfl) (by kernel_rfl) (by kernel_rfl) (by kernel_rfl) (by kernel_rfl) ?_; intro wd297 hM298; clear hM291
              have hM299 : Mem w.heap.size [] w Z [.row b7 [.int .i64 0, .int .i64 0, .int .i64 0] 28, .row b2 [.int .i64 256, .int .i64 u0.Got, .int .i64 u0.Rest] 28] Z wd297 := hM298; clear hM298
              refine nl ?_
              refine ibn ?_
              refine thn ?_
              have hF300 : Fr 80 [] [⟨2, [], .pointer (some ⟨b2, 0, none⟩)⟩, ⟨4, [], .pointer (some ⟨b7, 0, none⟩)⟩] a295 := hF296.region (by kernel_rfl) (by kernel_rfl); clear hF296
              refine sqR ?_
              refine st hF300 (.agg #[.int .i64 256, .int .i64 u0.Got, .int .i64 u0.Rest]) (nog rfl _) rfl (by kernel_rfl) (lda hF300 hM299 1 (g := []) (b := b2) (off := 0) (k := 3) (cs := [.int .i64 256, .int .i64 u0.Got, .int .i64 u0.Rest]) (vs := [.int .i64 256, .int .i64 u0.Got, .int .i64 u0.Rest]) (ty := 28) rfl (by kernel_rfl) (by kernel_rfl) (by kernel_rfl) (by kernel_rfl) (by kernel_rfl) rfl) ?_; intro a301 hF302; clear hF300
              refine sr hF302 hM299 0 [.int .i64 256, .int .i64 u0.Got, .int .i64 u0.Rest] (b := b7) (off := 0) (cs := [.int .i64 0, .int .i64 0, .int .i64 0]) (ty := 28) (u := .agg #[.int .i64 256, .int .i64 u0.Got, .int .i64 u0.Rest]) (nog rfl _) rfl rfl (by kernel_rfl) (by kernel_rfl) (by kernel_rfl) (by kernel_rfl) (by kernel_rfl) (by kernel_rfl) (by kernel_rfl) ?_; intro wd303 hM304; clear hM299
              refine st hF302 (.bool true) (nog rfl _) rfl (by kernel_rfl) (p0 hF302 (by kernel_rfl)) ?_; intro a305 hF306; clear hF302
              have hM307 : Mem w.heap.size [] w Z [.row b7 [.int .i64 256, .int .i64 u0.Got, .int .i64 u0.Rest] 28, .row b2 [.int .i64 256, .int .i64 u0.Got, .int .i64 u0.Rest] 28] Z wd303 := hM304; clear hM304
              refine nlT ?_
              refine wp_ret ?_
              refine rt (fn := Try.f14) (v := .tuple #[.agg #[.int .i64 256, .int .i64 u0.Got, .int .i64 u0.Rest], .bool true]) hF306 (re2c hF306 (fn := Try.f14) rfl (ad := ⟨b7, 0, none⟩) (by kernel_rfl) (loadVar_run hM307 0 (b := b7) (k := 3) (vs := [.int .i64 256, .int .i64 u0.Got, .int .i64 u0.Rest]) (ty := 28) rfl (by kernel_rfl) (by kernel_rfl)) (by kernel_rfl)) ?_
              exact ⟨((⟨256, u0.Got, u0.Rest⟩ : Health), true), rfl, hp293, hM307.below⟩
            · -- no
              have hp308 := hp271.2 hb292; clear hp271
              refine wp_skip ?_
              refine ibn ?_
              refine thn ?_
              have hF309 : Fr 80 [] [⟨2, [], .pointer (some ⟨b2, 0, none⟩)⟩, ⟨4, [], .pointer (some ⟨b7, 0, none⟩)⟩] a289 := hF290.region (by kernel_rfl) (by kernel_rfl); clear hF290
              refine sqR ?_
              refine st hF309 (.agg #[.int .i64 (w64 (u0.Sent + 8)), .int .i64 u0.Got, .int .i64 u0.Rest]) (nog rfl _) rfl (by kernel_rfl) (lda hF309 hM291 1 (g := []) (b := b2) (off := 0) (k := 3) (cs := [.int .i64 (w64 (u0.Sent + 8)), .int .i64 u0.Got, .int .i64 u0.Rest]) (vs := [.int .i64 (w64 (u0.Sent + 8)), .int .i64 u0.Got, .int .i64 u0.Rest]) (ty := 28) rfl (by kernel_rfl) (by kernel_rfl) (by kernel_rfl) (by kernel_rfl) (by kernel_rfl) rfl) ?_; intro a310 hF311; clear hF309
              refine sr hF311 hM291 0 [.int .i64 (w64 (u0.Sent + 8)), .int .i64 u0.Got, .int .i64 u0.Rest] (b := b7) (off := 0) (cs := [.int .i64 0, .int .i64 0, .int .i64 0]) (ty := 28) (u := .agg #[.int .i64 (w64 (u0.Sent + 8)), .int .i64 u0.Got, .int .i64 u0.Rest]) (nog rfl _) rfl rfl (by kernel_rfl) (by kernel_rfl) (by kernel_rfl) (by kernel_rfl) (by kernel_rfl) (by kernel_rfl) (by kernel_rfl) ?_; intro wd312 hM313; clear hM291
              refine st hF311 (.bool true) (nog rfl _) rfl (by kernel_rfl) (p0 hF311 (by kernel_rfl)) ?_; intro a314 hF315; clear hF311
              have hM316 : Mem w.heap.size [] w Z [.row b7 [.int .i64 (w64 (u0.Sent + 8)), .int .i64 u0.Got, .int .i64 u0.Rest] 28, .row b2 [.int .i64 (w64 (u0.Sent + 8)), .int .i64 u0.Got, .int .i64 u0.Rest] 28] Z wd312 := hM313; clear hM313
              refine nlT ?_
              refine wp_ret ?_
              refine rt (fn := Try.f14) (v := .tuple #[.agg #[.int .i64 (w64 (u0.Sent + 8)), .int .i64 u0.Got, .int .i64 u0.Rest], .bool true]) hF315 (re2c hF315 (fn := Try.f14) rfl (ad := ⟨b7, 0, none⟩) (by kernel_rfl) (loadVar_run hM316 0 (b := b7) (k := 3) (vs := [.int .i64 (w64 (u0.Sent + 8)), .int .i64 u0.Got, .int .i64 u0.Rest]) (ty := 28) rfl (by kernel_rfl) (by kernel_rfl)) (by kernel_rfl)) ?_
              exact ⟨((⟨w64 (u0.Sent + 8), u0.Got, u0.Rest⟩ : Health), true), rfl, hp308, hM316.below⟩
          · -- no
            have hp317 := hp263.2 hb270; clear hp263
            have hF318 : Fr 80 [] [⟨2, [], .pointer (some ⟨b2, 0, none⟩)⟩, ⟨4, [], .pointer (some ⟨b7, 0, none⟩)⟩, ⟨27, [], .int .i64 u1⟩] a267 := hF268.region (by kernel_rfl) (by kernel_rfl); clear hF268
            refine sqR ?_
            refine st hF318 (.bool (u1 == 4)) (nog rfl _) rfl (by kernel_rfl) (p0 hF318 (by kernel_rfl)) ?_; intro a319 hF320; clear hF318
            refine st hF320 (.bool (u1 == 4)) (nog rfl _) rfl (by kernel_rfl) (p0 hF320 (by kernel_rfl)) ?_; intro a321 hF322; clear hF320
            have hM323 : Mem w.heap.size [] w Z [.row b7 [.int .i64 0, .int .i64 0, .int .i64 0] 28, .row b2 [.int .i64 u0.Sent, .int .i64 u0.Got, .int .i64 u0.Rest] 28] Z wd10 := hM269; clear hM269
            refine nlT ?_
            refine cd hF322 (t := u1 == 4) (by kernel_rfl) (fun hb324 => ?_) (fun hb324 => ?_)
            · -- yes
              have hp325 := hp317.1 hb324; clear hp317
              have hF326 : Fr 80 [] [⟨2, [], .pointer (some ⟨b2, 0, none⟩)⟩, ⟨4, [], .pointer (some ⟨b7, 0, none⟩)⟩] a321 := hF322.region (by kernel_rfl) (by kernel_rfl); clear hF322
              refine sqR ?_
              refine st hF326 (.pointer (some ⟨b2, 1, none⟩)) (nog rfl _) rfl (by kernel_rfl) (p0 hF326 (by kernel_rfl)) ?_; intro a327 hF328; clear hF326
              refine st hF328 (.int .i64 u0.Got) (nog rfl _) rfl (by kernel_rfl) (ld hF328 hM323 1 (g := []) (b := b2) (off := 1) (cs := [.int .i64 u0.Sent, .int .i64 u0.Got, .int .i64 u0.Rest]) (ty := 28) rfl (by kernel_rfl) (by kernel_rfl) (by kernel_rfl) (by kernel_rfl) rfl) ?_; intro a329 hF330; clear hF328
              refine st hF330 (.bool (decide (u0.Got < 255))) (nog rfl _) rfl (by kernel_rfl) (p0 hF330 (by kernel_rfl)) ?_; intro a331 hF332; clear hF330
              have hM333 : Mem w.heap.size [] w Z [.row b7 [.int .i64 0, .int .i64 0, .int .i64 0] 28, .row b2 [.int .i64 u0.Sent, .int .i64 u0.Got, .int .i64 u0.Rest] 28] Z wd10 := hM323; clear hM323
              refine nlT ?_
              refine cd hF332 (t := decide (u0.Got < 255)) (by kernel_rfl) (fun hb334 => ?_) (fun hb334 => ?_)
              · -- yes
                have hp335 := hp325.1 hb334; clear hp325
                have hF336 : Fr 80 [] [⟨2, [], .pointer (some ⟨b2, 0, none⟩)⟩, ⟨4, [], .pointer (some ⟨b7, 0, none⟩)⟩] a331 := hF332.region (by kernel_rfl) (by kernel_rfl); clear hF332
                refine wp_region_lit ?_
                refine st hF336 (.pointer (some ⟨b2, 1, none⟩)) (nog rfl _) rfl (by kernel_rfl) (p0 hF336 (by kernel_rfl)) ?_; intro a337 hF338; clear hF336
                refine st hF338 (.int .i64 u0.Got) (nog rfl _) rfl (by kernel_rfl) (ld hF338 hM333 1 (g := []) (b := b2) (off := 1) (cs := [.int .i64 u0.Sent, .int .i64 u0.Got, .int .i64 u0.Rest]) (ty := 28) rfl (by kernel_rfl) (by kernel_rfl) (by kernel_rfl) (by kernel_rfl) rfl) ?_; intro a339 hF340; clear hF338
                refine st hF340 (.int .i64 (w64 (u0.Got + 1))) (nog rfl _) rfl (by kernel_rfl) (p0 hF340 (by kernel_rfl)) ?_; intro a341 hF342; clear hF340
                refine st hF342 (.pointer (some ⟨b2, 1, none⟩)) (nog rfl _) rfl (by kernel_rfl) (p0 hF342 (by kernel_rfl)) ?_; intro a343 hF344; clear hF342
                refine sr hF344 hM333 1 [.int .i64 u0.Sent, .int .i64 (w64 (u0.Got + 1)), .int .i64 u0.Rest] (b := b2) (off := 1) (cs := [.int .i64 u0.Sent, .int .i64 u0.Got, .int .i64 u0.Rest]) (ty := 28) (u := .int .i64 (w64 (u0.Got + 1))) (nog rfl _) rfl rfl (by kernel_rfl) (by kernel_rfl) (by kernel_rfl) (by kernel_rfl) (by kernel_rfl) (by kernel_rfl) (by kernel_rfl) ?_; intro wd345 hM346; clear hM333
                have hM347 : Mem w.heap.size [] w Z [.row b7 [.int .i64 0, .int .i64 0, .int .i64 0] 28, .row b2 [.int .i64 u0.Sent, .int .i64 (w64 (u0.Got + 1)), .int .i64 u0.Rest] 28] Z wd345 := hM346; clear hM346
                refine nl ?_
                refine ibn ?_
                refine thn ?_
                have hF348 : Fr 80 [] [⟨2, [], .pointer (some ⟨b2, 0, none⟩)⟩, ⟨4, [], .pointer (some ⟨b7, 0, none⟩)⟩] a343 := hF344.region (by kernel_rfl) (by kernel_rfl); clear hF344
                refine sqR ?_
                refine st hF348 (.agg #[.int .i64 u0.Sent, .int .i64 (w64 (u0.Got + 1)), .int .i64 u0.Rest]) (nog rfl _) rfl (by kernel_rfl) (lda hF348 hM347 1 (g := []) (b := b2) (off := 0) (k := 3) (cs := [.int .i64 u0.Sent, .int .i64 (w64 (u0.Got + 1)), .int .i64 u0.Rest]) (vs := [.int .i64 u0.Sent, .int .i64 (w64 (u0.Got + 1)), .int .i64 u0.Rest]) (ty := 28) rfl (by kernel_rfl) (by kernel_rfl) (by kernel_rfl) (by kernel_rfl) (by kernel_rfl) rfl) ?_; intro a349 hF350; clear hF348
                refine sr hF350 hM347 0 [.int .i64 u0.Sent, .int .i64 (w64 (u0.Got + 1)), .int .i64 u0.Rest] (b := b7) (off := 0) (cs := [.int .i64 0, .int .i64 0, .int .i64 0]) (ty := 28) (u := .agg #[.int .i64 u0.Sent, .int .i64 (w64 (u0.Got + 1)), .int .i64 u0.Rest]) (nog rfl _) rfl rfl (by kernel_rfl) (by kernel_rfl) (by kernel_rfl) (by kernel_rfl) (by kernel_rfl) (by kernel_rfl) (by kernel_rfl) ?_; intro wd351 hM352; clear hM347
                refine st hF350 (.bool true) (nog rfl _) rfl (by kernel_rfl) (p0 hF350 (by kernel_rfl)) ?_; intro a353 hF354; clear hF350
                have hM355 : Mem w.heap.size [] w Z [.row b7 [.int .i64 u0.Sent, .int .i64 (w64 (u0.Got + 1)), .int .i64 u0.Rest] 28, .row b2 [.int .i64 u0.Sent, .int .i64 (w64 (u0.Got + 1)), .int .i64 u0.Rest] 28] Z wd351 := hM352; clear hM352
                refine nlT ?_
                refine wp_ret ?_
                refine rt (fn := Try.f14) (v := .tuple #[.agg #[.int .i64 u0.Sent, .int .i64 (w64 (u0.Got + 1)), .int .i64 u0.Rest], .bool true]) hF354 (re2c hF354 (fn := Try.f14) rfl (ad := ⟨b7, 0, none⟩) (by kernel_rfl) (loadVar_run hM355 0 (b := b7) (k := 3) (vs := [.int .i64 u0.Sent, .int .i64 (w64 (u0.Got + 1)), .int .i64 u0.Rest]) (ty := 28) rfl (by kernel_rfl) (by kernel_rfl)) (by kernel_rfl)) ?_
                exact ⟨((⟨u0.Sent, w64 (u0.Got + 1), u0.Rest⟩ : Health), true), rfl, hp335, hM355.below⟩
              · -- no
                have hp356 := hp325.2 hb334; clear hp325
                refine wp_skip ?_
                refine ibn ?_
                refine thn ?_
                have hF357 : Fr 80 [] [⟨2, [], .pointer (some ⟨b2, 0, none⟩)⟩, ⟨4, [], .pointer (some ⟨b7, 0, none⟩)⟩] a331 := hF332.region (by kernel_rfl) (by kernel_rfl); clear hF332
                refine sqR ?_
                refine st hF357 (.agg #[.int .i64 u0.Sent, .int .i64 u0.Got, .int .i64 u0.Rest]) (nog rfl _) rfl (by kernel_rfl) (lda hF357 hM333 1 (g := []) (b := b2) (off := 0) (k := 3) (cs := [.int .i64 u0.Sent, .int .i64 u0.Got, .int .i64 u0.Rest]) (vs := [.int .i64 u0.Sent, .int .i64 u0.Got, .int .i64 u0.Rest]) (ty := 28) rfl (by kernel_rfl) (by kernel_rfl) (by kernel_rfl) (by kernel_rfl) (by kernel_rfl) rfl) ?_; intro a358 hF359; clear hF357
                refine sr hF359 hM333 0 [.int .i64 u0.Sent, .int .i64 u0.Got, .int .i64 u0.Rest] (b := b7) (off := 0) (cs := [.int .i64 0, .int .i64 0, .int .i64 0]) (ty := 28) (u := .agg #[.int .i64 u0.Sent, .int .i64 u0.Got, .int .i64 u0.Rest]) (nog rfl _) rfl rfl (by kernel_rfl) (by kernel_rfl) (by kernel_rfl) (by kernel_rfl) (by kernel_rfl) (by kernel_rfl) (by kernel_rfl) ?_; intro wd360 hM361; clear hM333
                refine st hF359 (.bool true) (nog rfl _) rfl (by kernel_rfl) (p0 hF359 (by kernel_rfl)) ?_; intro a362 hF363; clear hF359
                have hM364 : Mem w.heap.size [] w Z [.row b7 [.int .i64 u0.Sent, .int .i64 u0.Got, .int .i64 u0.Rest] 28, .row b2 [.int .i64 u0.Sent, .int .i64 u0.Got, .int .i64 u0.Rest] 28] Z wd360 := hM361; clear hM361
                refine nlT ?_
                refine wp_ret ?_
                refine rt (fn := Try.f14) (v := .tuple #[.agg #[.int .i64 u0.Sent, .int .i64 u0.Got, .int .i64 u0.Rest], .bool true]) hF363 (re2c hF363 (fn := Try.f14) rfl (ad := ⟨b7, 0, none⟩) (by kernel_rfl) (loadVar_run hM364 0 (b := b7) (k := 3) (vs := [.int .i64 u0.Sent, .int .i64 u0.Got, .int .i64 u0.Rest]) (ty := 28) rfl (by kernel_rfl) (by kernel_rfl)) (by kernel_rfl)) ?_
                exact ⟨(u0, true), rfl, hp356, hM364.below⟩
            · -- no
              have hp365 := hp317.2 hb324; clear hp317
              have hF366 : Fr 80 [] [⟨2, [], .pointer (some ⟨b2, 0, none⟩)⟩, ⟨4, [], .pointer (some ⟨b7, 0, none⟩)⟩, ⟨27, [], .int .i64 u1⟩] a321 := hF322.region (by kernel_rfl) (by kernel_rfl); clear hF322
              refine sqR ?_
              refine st hF366 (.bool (u1 == 5)) (nog rfl _) rfl (by kernel_rfl) (p0 hF366 (by kernel_rfl)) ?_; intro a367 hF368; clear hF366
              refine st hF368 (.bool (u1 == 5)) (nog rfl _) rfl (by kernel_rfl) (p0 hF368 (by kernel_rfl)) ?_; intro a369 hF370; clear hF368
              have hM371 : Mem w.heap.size [] w Z [.row b7 [.int .i64 0, .int .i64 0, .int .i64 0] 28, .row b2 [.int .i64 u0.Sent, .int .i64 u0.Got, .int .i64 u0.Rest] 28] Z wd10 := hM323; clear hM323
              refine nlT ?_
              refine cd hF370 (t := u1 == 5) (by kernel_rfl) (fun hb372 => ?_) (fun hb372 => ?_)
              · -- yes
                have hp373 := hp365.1 hb372; clear hp365
                have hF374 : Fr 80 [] [⟨2, [], .pointer (some ⟨b2, 0, none⟩)⟩, ⟨4, [], .pointer (some ⟨b7, 0, none⟩)⟩] a369 := hF370.region (by kernel_rfl) (by kernel_rfl); clear hF370
                refine sqR ?_
                refine st hF374 (.pointer (some ⟨b2, 1, none⟩)) (nog rfl _) rfl (by kernel_rfl) (p0 hF374 (by kernel_rfl)) ?_; intro a375 hF376; clear hF374
                refine st hF376 (.int .i64 u0.Got) (nog rfl _) rfl (by kernel_rfl) (ld hF376 hM371 1 (g := []) (b := b2) (off := 1) (cs := [.int .i64 u0.Sent, .int .i64 u0.Got, .int .i64 u0.Rest]) (ty := 28) rfl (by kernel_rfl) (by kernel_rfl) (by kernel_rfl) (by kernel_rfl) rfl) ?_; intro a377 hF378; clear hF376
                refine st hF378 (.int .i64 (w64 (u0.Got + 8))) (nog rfl _) rfl (by kernel_rfl) (p0 hF378 (by kernel_rfl)) ?_; intro a379 hF380; clear hF378
                refine st hF380 (.pointer (some ⟨b2, 1, none⟩)) (nog rfl _) rfl (by kernel_rfl) (p0 hF380 (by kernel_rfl)) ?_; intro a381 hF382; clear hF380
                refine sr hF382 hM371 1 [.int .i64 u0.Sent, .int .i64 (w64 (u0.Got + 8)), .int .i64 u0.Rest] (b := b2) (off := 1) (cs := [.int .i64 u0.Sent, .int .i64 u0.Got, .int .i64 u0.Rest]) (ty := 28) (u := .int .i64 (w64 (u0.Got + 8))) (nog rfl _) rfl rfl (by kernel_rfl) (by kernel_rfl) (by kernel_rfl) (by kernel_rfl) (by kernel_rfl) (by kernel_rfl) (by kernel_rfl) ?_; intro wd383 hM384; clear hM371
                have hM385 : Mem w.heap.size [] w Z [.row b7 [.int .i64 0, .int .i64 0, .int .i64 0] 28, .row b2 [.int .i64 u0.Sent, .int .i64 (w64 (u0.Got + 8)), .int .i64 u0.Rest] 28] Z wd383 := hM384; clear hM384
                refine nlT ?_
                have hF386 : Fr 80 [] [⟨2, [], .pointer (some ⟨b2, 0, none⟩)⟩, ⟨4, [], .pointer (some ⟨b7, 0, none⟩)⟩] a381 := hF382.region (by kernel_rfl) (by kernel_rfl); clear hF382
                refine sqR ?_
                refine st hF386 (.pointer (some ⟨b2, 1, none⟩)) (nog rfl _) rfl (by kernel_rfl) (p0 hF386 (by kernel_rfl)) ?_; intro a387 hF388; clear hF386
                refine st hF388 (.int .i64 (w64 (u0.Got + 8))) (nog rfl _) rfl (by kernel_rfl) (ld hF388 hM385 1 (g := []) (b := b2) (off := 1) (cs := [.int .i64 u0.Sent, .int .i64 (w64 (u0.Got + 8)), .int .i64 u0.Rest]) (ty := 28) rfl (by kernel_rfl) (by kernel_rfl) (by kernel_rfl) (by kernel_rfl) rfl) ?_; intro a389 hF390; clear hF388
                refine st hF390 (.bool (decide ((w64 (u0.Got + 8)) > 255))) (nog rfl _) rfl (by kernel_rfl) (p0 hF390 (by kernel_rfl)) ?_; intro a391 hF392; clear hF390
                have hM393 : Mem w.heap.size [] w Z [.row b7 [.int .i64 0, .int .i64 0, .int .i64 0] 28, .row b2 [.int .i64 u0.Sent, .int .i64 (w64 (u0.Got + 8)), .int .i64 u0.Rest] 28] Z wd383 := hM385; clear hM385
                refine nlT ?_
                refine cd hF392 (t := decide ((w64 (u0.Got + 8)) > 255)) (by kernel_rfl) (fun hb394 => ?_) (fun hb394 => ?_)
                · -- yes
                  have hp395 := hp373.1 hb394; clear hp373
                  have hF396 : Fr 80 [] [⟨2, [], .pointer (some ⟨b2, 0, none⟩)⟩, ⟨4, [], .pointer (some ⟨b7, 0, none⟩)⟩] a391 := hF392.region (by kernel_rfl) (by kernel_rfl); clear hF392
                  refine wp_region_lit ?_
                  refine st hF396 (.pointer (some ⟨b2, 1, none⟩)) (nog rfl _) rfl (by kernel_rfl) (p0 hF396 (by kernel_rfl)) ?_; intro a397 hF398; clear hF396
                  refine sr hF398 hM393 1 [.int .i64 u0.Sent, .int .i64 255, .int .i64 u0.Rest] (b := b2) (off := 1) (cs := [.int .i64 u0.Sent, .int .i64 (w64 (u0.Got + 8)), .int .i64 u0.Rest]) (ty := 28) (u := .int .i64 255) (nog rfl _) rfl rfl (by kernel_rfl) (by kernel_rfl) (by kernel_rfl) (by kernel_rfl) (by kernel_rfl) (by kernel_rfl) (by kernel_rfl) ?_; intro wd399 hM400; clear hM393
                  have hM401 : Mem w.heap.size [] w Z [.row b7 [.int .i64 0, .int .i64 0, .int .i64 0] 28, .row b2 [.int .i64 u0.Sent, .int .i64 255, .int .i64 u0.Rest] 28] Z wd399 := hM400; clear hM400
                  refine nl ?_
                  refine ibn ?_
                  refine thn ?_
                  have hF402 : Fr 80 [] [⟨2, [], .pointer (some ⟨b2, 0, none⟩)⟩, ⟨4, [], .pointer (some ⟨b7, 0, none⟩)⟩] a397 := hF398.region (by kernel_rfl) (by kernel_rfl); clear hF398
                  refine sqR ?_
                  refine st hF402 (.agg #[.int .i64 u0.Sent, .int .i64 255, .int .i64 u0.Rest]) (nog rfl _) rfl (by kernel_rfl) (lda hF402 hM401 1 (g := []) (b := b2) (off := 0) (k := 3) (cs := [.int .i64 u0.Sent, .int .i64 255, .int .i64 u0.Rest]) (vs := [.int .i64 u0.Sent, .int .i64 255, .int .i64 u0.Rest]) (ty := 28) rfl (by kernel_rfl) (by kernel_rfl) (by kernel_rfl) (by kernel_rfl) (by kernel_rfl) rfl) ?_; intro a403 hF404; clear hF402
                  refine sr hF404 hM401 0 [.int .i64 u0.Sent, .int .i64 255, .int .i64 u0.Rest] (b := b7) (off := 0) (cs := [.int .i64 0, .int .i64 0, .int .i64 0]) (ty := 28) (u := .agg #[.int .i64 u0.Sent, .int .i64 255, .int .i64 u0.Rest]) (nog rfl _) rfl rfl (by kernel_rfl) (by kernel_rfl) (by kernel_rfl) (by kernel_rfl) (by kernel_rfl) (by kernel_rfl) (by kernel_rfl) ?_; intro wd405 hM406; clear hM401
                  refine st hF404 (.bool true) (nog rfl _) rfl (by kernel_rfl) (p0 hF404 (by kernel_rfl)) ?_; intro a407 hF408; clear hF404
                  have hM409 : Mem w.heap.size [] w Z [.row b7 [.int .i64 u0.Sent, .int .i64 255, .int .i64 u0.Rest] 28, .row b2 [.int .i64 u0.Sent, .int .i64 255, .int .i64 u0.Rest] 28] Z wd405 := hM406; clear hM406
                  refine nlT ?_
                  refine wp_ret ?_
                  refine rt (fn := Try.f14) (v := .tuple #[.agg #[.int .i64 u0.Sent, .int .i64 255, .int .i64 u0.Rest], .bool true]) hF408 (re2c hF408 (fn := Try.f14) rfl (ad := ⟨b7, 0, none⟩) (by kernel_rfl) (loadVar_run hM409 0 (b := b7) (k := 3) (vs := [.int .i64 u0.Sent, .int .i64 255, .int .i64 u0.Rest]) (ty := 28) rfl (by kernel_rfl) (by kernel_rfl)) (by kernel_rfl)) ?_
                  exact ⟨((⟨u0.Sent, 255, u0.Rest⟩ : Health), true), rfl, hp395, hM409.below⟩
                · -- no
                  have hp410 := hp373.2 hb394; clear hp373
                  refine wp_skip ?_
                  refine ibn ?_
                  refine thn ?_
                  have hF411 : Fr 80 [] [⟨2, [], .pointer (some ⟨b2, 0, none⟩)⟩, ⟨4, [], .pointer (some ⟨b7, 0, none⟩)⟩] a391 := hF392.region (by kernel_rfl) (by kernel_rfl); clear hF392
                  refine sqR ?_
                  refine st hF411 (.agg #[.int .i64 u0.Sent, .int .i64 (w64 (u0.Got + 8)), .int .i64 u0.Rest]) (nog rfl _) rfl (by kernel_rfl) (lda hF411 hM393 1 (g := []) (b := b2) (off := 0) (k := 3) (cs := [.int .i64 u0.Sent, .int .i64 (w64 (u0.Got + 8)), .int .i64 u0.Rest]) (vs := [.int .i64 u0.Sent, .int .i64 (w64 (u0.Got + 8)), .int .i64 u0.Rest]) (ty := 28) rfl (by kernel_rfl) (by kernel_rfl) (by kernel_rfl) (by kernel_rfl) (by kernel_rfl) rfl) ?_; intro a412 hF413; clear hF411
                  refine sr hF413 hM393 0 [.int .i64 u0.Sent, .int .i64 (w64 (u0.Got + 8)), .int .i64 u0.Rest] (b := b7) (off := 0) (cs := [.int .i64 0, .int .i64 0, .int .i64 0]) (ty := 28) (u := .agg #[.int .i64 u0.Sent, .int .i64 (w64 (u0.Got + 8)), .int .i64 u0.Rest]) (nog rfl _) rfl rfl (by kernel_rfl) (by kernel_rfl) (by kernel_rfl) (by kernel_rfl) (by kernel_rfl) (by kernel_rfl) (by kernel_rfl) ?_; intro wd414 hM415; clear hM393
                  refine st hF413 (.bool true) (nog rfl _) rfl (by kernel_rfl) (p0 hF413 (by kernel_rfl)) ?_; intro a416 hF417; clear hF413
                  have hM418 : Mem w.heap.size [] w Z [.row b7 [.int .i64 u0.Sent, .int .i64 (w64 (u0.Got + 8)), .int .i64 u0.Rest] 28, .row b2 [.int .i64 u0.Sent, .int .i64 (w64 (u0.Got + 8)), .int .i64 u0.Rest] 28] Z wd414 := hM415; clear hM415
                  refine nlT ?_
                  refine wp_ret ?_
                  refine rt (fn := Try.f14) (v := .tuple #[.agg #[.int .i64 u0.Sent, .int .i64 (w64 (u0.Got + 8)), .int .i64 u0.Rest], .bool true]) hF417 (re2c hF417 (fn := Try.f14) rfl (ad := ⟨b7, 0, none⟩) (by kernel_rfl) (loadVar_run hM418 0 (b := b7) (k := 3) (vs := [.int .i64 u0.Sent, .int .i64 (w64 (u0.Got + 8)), .int .i64 u0.Rest]) (ty := 28) rfl (by kernel_rfl) (by kernel_rfl)) (by kernel_rfl)) ?_
                  exact ⟨((⟨u0.Sent, w64 (u0.Got + 8), u0.Rest⟩ : Health), true), rfl, hp410, hM418.below⟩
              · -- no
                have hp419 := hp365.2 hb372; clear hp365
                refine wp_skip ?_
                refine ibn ?_
                refine thn ?_
                have hF420 : Fr 80 [] [⟨2, [], .pointer (some ⟨b2, 0, none⟩)⟩, ⟨4, [], .pointer (some ⟨b7, 0, none⟩)⟩] a369 := hF370.region (by kernel_rfl) (by kernel_rfl); clear hF370
                refine sqR ?_
                refine st hF420 (.agg #[.int .i64 u0.Sent, .int .i64 u0.Got, .int .i64 u0.Rest]) (nog rfl _) rfl (by kernel_rfl) (lda hF420 hM371 1 (g := []) (b := b2) (off := 0) (k := 3) (cs := [.int .i64 u0.Sent, .int .i64 u0.Got, .int .i64 u0.Rest]) (vs := [.int .i64 u0.Sent, .int .i64 u0.Got, .int .i64 u0.Rest]) (ty := 28) rfl (by kernel_rfl) (by kernel_rfl) (by kernel_rfl) (by kernel_rfl) (by kernel_rfl) rfl) ?_; intro a421 hF422; clear hF420
                refine sr hF422 hM371 0 [.int .i64 u0.Sent, .int .i64 u0.Got, .int .i64 u0.Rest] (b := b7) (off := 0) (cs := [.int .i64 0, .int .i64 0, .int .i64 0]) (ty := 28) (u := .agg #[.int .i64 u0.Sent, .int .i64 u0.Got, .int .i64 u0.Rest]) (nog rfl _) rfl rfl (by kernel_rfl) (by kernel_rfl) (by kernel_rfl) (by kernel_rfl) (by kernel_rfl) (by kernel_rfl) (by kernel_rfl) ?_; intro wd423 hM424; clear hM371
                refine st hF422 (.bool true) (nog rfl _) rfl (by kernel_rfl) (p0 hF422 (by kernel_rfl)) ?_; intro a425 hF426; clear hF422
                have hM427 : Mem w.heap.size [] w Z [.row b7 [.int .i64 u0.Sent, .int .i64 u0.Got, .int .i64 u0.Rest] 28, .row b2 [.int .i64 u0.Sent, .int .i64 u0.Got, .int .i64 u0.Rest] 28] Z wd423 := hM424; clear hM424
                refine nlT ?_
                refine wp_ret ?_
                refine rt (fn := Try.f14) (v := .tuple #[.agg #[.int .i64 u0.Sent, .int .i64 u0.Got, .int .i64 u0.Rest], .bool true]) hF426 (re2c hF426 (fn := Try.f14) rfl (ad := ⟨b7, 0, none⟩) (by kernel_rfl) (loadVar_run hM427 0 (b := b7) (k := 3) (vs := [.int .i64 u0.Sent, .int .i64 u0.Got, .int .i64 u0.Rest]) (ty := 28) rfl (by kernel_rfl) (by kernel_rfl)) (by kernel_rfl)) ?_
                exact ⟨(u0, true), rfl, hp419, hM427.below⟩
theorem rstep_fun (u0 : Health) (u1 : Int)  (Z : Fz) (w : World)  (hZ : Z.on w) : Calls Try.prog 14 #[.agg #[.int .i64 u0.Sent, .int .i64 u0.Got, .int .i64 u0.Rest], .int .i64 u1] w fun e w' => e = .returned (.tuple #[.agg #[.int .i64 (((rstep u0 u1).1).Sent), .int .i64 (((rstep u0 u1).1).Got), .int .i64 (((rstep u0 u1).1).Rest)], .bool ((rstep u0 u1).2)]) ∧ Below w.heap.size w w' :=
  (rstep_walk u0 u1  Z w  hZ (rstep_ok u0 u1)).mono fun _ _ ⟨r, he, hk, hb⟩ => ⟨by subst hk; exact he, hb⟩

set_option maxRecDepth 100000 in
theorem hstep_walk (u0 : Health) (u1 : List Int) (ao1 : Option Addr) (cap2 : Nat) (Z : Fz) (w : World) (hs3 : SlR (tyInt .i64) Z ao1 cap2 u1) (hZ : Z.on w) {K : (Health × Int × Int) → Prop} (hp : hstep_vc u0 u1 K) : Calls Try.prog 8 #[.agg #[.int .i64 u0.Sent, .int .i64 u0.Got, .int .i64 u0.Rest], .slice ao1 u1.length cap2] w fun e w' => ∃ r : Health × Int × Int, e = .returned (.tuple #[.agg #[.int .i64 r.1.Sent, .int .i64 r.1.Got, .int .i64 r.1.Rest], .int .i64 r.2.1, .int .i64 r.2.2]) ∧ K r ∧ Below w.heap.size w w' := by
  refine enter0 Try.func8 rfl rfl (by kernel_rfl) ?_; intro a0 hF0; have hM0 := Mem.start w Z hZ; have hle0 := Fz.le.refl Z
  have hp4 := hp (hs3.small); clear hp
  have hF5 : Fr 43 [] [⟨0, [], .agg #[.int .i64 u0.Sent, .int .i64 u0.Got, .int .i64 u0.Rest]⟩, ⟨1, [], .slice ao1 u1.length cap2⟩] a0 := hF0.region (by kernel_rfl) (by kernel_rfl); clear hF0
  refine sqR ?_
  refine sn hF5 hM0 (fun b => .pointer (some ⟨b, 0, none⟩)) [.int .i64 u0.Sent, .int .i64 u0.Got, .int .i64 u0.Rest] 28 (nog rfl _) rfl (by kernel_rfl) (by kernel_rfl) ?_; intro b6 a7 wd9 hF8 hM10; clear hF5 hM0
  refine sn hF8 hM10 (fun b => .pointer (some ⟨b, 0, none⟩)) [.int .i64 0, .int .i64 0, .int .i64 0] 28 (nog rfl _) rfl (by kernel_rfl) (by kernel_rfl) ?_; intro b11 a12 wd14 hF13 hM15; clear hF8 hM10
  refine st hF13 (.int .i64 0) (nog rfl _) rfl (by kernel_rfl) (p0 hF13 (by kernel_rfl)) ?_; intro a16 hF17; clear hF13
  refine st hF17 (.int .i64 0) (nog rfl _) rfl (by kernel_rfl) (p0 hF17 (by kernel_rfl)) ?_; intro a18 hF19; clear hF17
  have hM20 : Mem w.heap.size [] w Z [.row b11 [.int .i64 0, .int .i64 0, .int .i64 0] 28, .row b6 [.int .i64 u0.Sent, .int .i64 u0.Got, .int .i64 u0.Rest] 28] Z wd14 := hM15; clear hM15
  refine nlT ?_
  refine wp_seq ?_
  have hF21 : Fr 43 [] [⟨1, [], .slice ao1 u1.length cap2⟩, ⟨2, [], .pointer (some ⟨b6, 0, none⟩)⟩, ⟨4, [], .pointer (some ⟨b11, 0, none⟩)⟩] a18 := hF19.region (by kernel_rfl) (by kernel_rfl); clear hF19
  refine sqR ?_
  refine st hF21 (.agg #[.int .i64 u0.Sent, .int .i64 u0.Got, .int .i64 u0.Rest]) (nog rfl _) rfl (by kernel_rfl) (lda hF21 hM20 1 (g := []) (b := b6) (off := 0) (k := 3) (cs := [.int .i64 u0.Sent, .int .i64 u0.Got, .int .i64 u0.Rest]) (vs := [.int .i64 u0.Sent, .int .i64 u0.Got, .int .i64 u0.Rest]) (ty := 28) rfl (by kernel_rfl) (by kernel_rfl) (by kernel_rfl) (by kernel_rfl) (by kernel_rfl) rfl) ?_; intro a22 hF23; clear hF21
  refine fcl hF23 hM20 (.int .i64 (hcheck u0)) 12 #[.agg #[.int .i64 u0.Sent, .int .i64 u0.Got, .int .i64 u0.Rest]] (nog rfl _) rfl (by kernel_rfl) (fun _ => by kernel_rfl) (hcheck_fun u0 _ _ hM20.fz) ?_; intro a24 wd26 hF25 hM27; clear hF23 hM20
  refine st hF25 (.int .i64 (hcheck u0)) (nog rfl _) rfl (by kernel_rfl) (p0 hF25 (by kernel_rfl)) ?_; intro a28 hF29; clear hF25
  have hM30 : Mem w.heap.size [] w Z [.row b11 [.int .i64 0, .int .i64 0, .int .i64 0] 28, .row b6 [.int .i64 u0.Sent, .int .i64 u0.Got, .int .i64 u0.Rest] 28] Z wd26 := hM27; clear hM27
  refine nlT ?_
  have hF31 : Fr 43 [] [⟨1, [], .slice ao1 u1.length cap2⟩, ⟨2, [], .pointer (some ⟨b6, 0, none⟩)⟩, ⟨4, [], .pointer (some ⟨b11, 0, none⟩)⟩, ⟨7, [], .int .i64 (hcheck u0)⟩] a28 := hF29.region (by kernel_rfl) (by kernel_rfl); clear hF29
  refine sqR ?_
  refine st hF31 (.int .i64 (hcheck u0)) (nog rfl _) rfl (by kernel_rfl) (p0 hF31 (by kernel_rfl)) ?_; intro a32 hF33; clear hF31
  refine st hF33 (.bool ((hcheck u0) != 0)) (nog rfl _) rfl (by kernel_rfl) (p0 hF33 (by kernel_rfl)) ?_; intro a34 hF35; clear hF33
  have hM36 : Mem w.heap.size [] w Z [.row b11 [.int .i64 0, .int .i64 0, .int .i64 0] 28, .row b6 [.int .i64 u0.Sent, .int .i64 u0.Got, .int .i64 u0.Rest] 28] Z wd26 := hM30; clear hM30
  refine nlT ?_
  refine cd hF35 (t := (hcheck u0) != 0) (by kernel_rfl) (fun hb37 => ?_) (fun hb37 => ?_)
  · -- yes
    have hp38 := hp4.1 hb37; clear hp4
    have hF39 : Fr 43 [] [⟨4, [], .pointer (some ⟨b11, 0, none⟩)⟩, ⟨7, [], .int .i64 (hcheck u0)⟩] a34 := hF35.region (by kernel_rfl) (by kernel_rfl); clear hF35
    refine sqR ?_
    refine st hF39 (.agg #[.int .i64 0, .int .i64 0, .int .i64 0]) (nog rfl _) rfl (by kernel_rfl) (p0 hF39 (by kernel_rfl)) ?_; intro a40 hF41; clear hF39
    refine st hF41 (.int .i64 (hcheck u0)) (nog rfl _) rfl (by kernel_rfl) (p0 hF41 (by kernel_rfl)) ?_; intro a42 hF43; clear hF41
    refine sr hF43 hM36 0 [.int .i64 0, .int .i64 0, .int .i64 0] (b := b11) (off := 0) (cs := [.int .i64 0, .int .i64 0, .int .i64 0]) (ty := 28) (u := .agg #[.int .i64 0, .int .i64 0, .int .i64 0]) (nog rfl _) rfl rfl (by kernel_rfl) (by kernel_rfl) (by kernel_rfl) (by kernel_rfl) (by kernel_rfl) (by kernel_rfl) (by kernel_rfl) ?_; intro wd44 hM45; clear hM36
    refine st hF43 (.int .i64 0) (nog rfl _) rfl (by kernel_rfl) (p0 hF43 (by kernel_rfl)) ?_; intro a46 hF47; clear hF43
    refine st hF47 (.int .i64 (hcheck u0)) (nog rfl _) rfl (by kernel_rfl) (p0 hF47 (by kernel_rfl)) ?_; intro a48 hF49; clear hF47
    have hM50 : Mem w.heap.size [] w Z [.row b11 [.int .i64 0, .int .i64 0, .int .i64 0] 28, .row b6 [.int .i64 u0.Sent, .int .i64 u0.Got, .int .i64 u0.Rest] 28] Z wd44 := hM45; clear hM45
    refine nlT ?_
    refine wp_ret ?_
    refine thr ?_
    refine rt (fn := Try.f8) (v := .tuple #[.agg #[.int .i64 0, .int .i64 0, .int .i64 0], .int .i64 0, .int .i64 (hcheck u0)]) hF49 (re3c hF49 (fn := Try.f8) rfl (ad := ⟨b11, 0, none⟩) (by kernel_rfl) (loadVar_run hM50 0 (b := b11) (k := 3) (vs := [.int .i64 0, .int .i64 0, .int .i64 0]) (ty := 28) rfl (by kernel_rfl) (by kernel_rfl)) (by kernel_rfl) (by kernel_rfl)) ?_
    exact ⟨((⟨0, 0, 0⟩ : Health), 0, (hcheck u0)), rfl, hp38, hM50.below⟩
  · -- no
    have hp51 := hp4.2 hb37; clear hp4
    refine wp_skip ?_
    refine thn ?_
    refine wp_seq ?_
    have hF52 : Fr 43 [] [⟨1, [], .slice ao1 u1.length cap2⟩, ⟨2, [], .pointer (some ⟨b6, 0, none⟩)⟩, ⟨4, [], .pointer (some ⟨b11, 0, none⟩)⟩] a34 := hF35.region (by kernel_rfl) (by kernel_rfl); clear hF35
    refine sqR ?_
    refine st hF52 (.slice ao1 u1.length cap2) (nog rfl _) rfl (by kernel_rfl) (p0 hF52 (by kernel_rfl)) ?_; intro a53 hF54; clear hF52
    refine st hF54 (.int .i64 (u1.length : Int)) (nog rfl _) rfl (by kernel_rfl) (p0 hF54 (by kernel_rfl)) ?_; intro a55 hF56; clear hF54
    refine st hF56 (.bool (decide ((u1.length : Int) > 1000))) (nog rfl _) rfl (by kernel_rfl) (p0 hF56 (by kernel_rfl)) ?_; intro a57 hF58; clear hF56
    have hM59 : Mem w.heap.size [] w Z [.row b11 [.int .i64 0, .int .i64 0, .int .i64 0] 28, .row b6 [.int .i64 u0.Sent, .int .i64 u0.Got, .int .i64 u0.Rest] 28] Z wd26 := hM36; clear hM36
    refine nlT ?_
    refine cd hF58 (t := decide ((u1.length : Int) > 1000)) (by kernel_rfl) (fun hb60 => ?_) (fun hb60 => ?_)
    · -- yes
      have hp61 := hp51.1 hb60; clear hp51
      have hF62 : Fr 43 [] [⟨4, [], .pointer (some ⟨b11, 0, none⟩)⟩] a57 := hF58.region (by kernel_rfl) (by kernel_rfl); clear hF58
      refine sqR ?_
      refine st hF62 (.agg #[.int .i64 0, .int .i64 0, .int .i64 0]) (nog rfl _) rfl (by kernel_rfl) (p0 hF62 (by kernel_rfl)) ?_; intro a63 hF64; clear hF62
      refine sr hF64 hM59 0 [.int .i64 0, .int .i64 0, .int .i64 0] (b := b11) (off := 0) (cs := [.int .i64 0, .int .i64 0, .int .i64 0]) (ty := 28) (u := .agg #[.int .i64 0, .int .i64 0, .int .i64 0]) (nog rfl _) rfl rfl (by kernel_rfl) (by kernel_rfl) (by kernel_rfl) (by kernel_rfl) (by kernel_rfl) (by kernel_rfl) (by kernel_rfl) ?_; intro wd65 hM66; clear hM59
      refine st hF64 (.int .i64 0) (nog rfl _) rfl (by kernel_rfl) (p0 hF64 (by kernel_rfl)) ?_; intro a67 hF68; clear hF64
      refine st hF68 (.int .i64 2) (nog rfl _) rfl (by kernel_rfl) (p0 hF68 (by kernel_rfl)) ?_; intro a69 hF70; clear hF68
      have hM71 : Mem w.heap.size [] w Z [.row b11 [.int .i64 0, .int .i64 0, .int .i64 0] 28, .row b6 [.int .i64 u0.Sent, .int .i64 u0.Got, .int .i64 u0.Rest] 28] Z wd65 := hM66; clear hM66
      refine nlT ?_
      refine wp_ret ?_
      refine thr ?_
      refine rt (fn := Try.f8) (v := .tuple #[.agg #[.int .i64 0, .int .i64 0, .int .i64 0], .int .i64 0, .int .i64 2]) hF70 (re3c hF70 (fn := Try.f8) rfl (ad := ⟨b11, 0, none⟩) (by kernel_rfl) (loadVar_run hM71 0 (b := b11) (k := 3) (vs := [.int .i64 0, .int .i64 0, .int .i64 0]) (ty := 28) rfl (by kernel_rfl) (by kernel_rfl)) (by kernel_rfl) (by kernel_rfl)) ?_
      exact ⟨((⟨0, 0, 0⟩ : Health), 0, 2), rfl, hp61, hM71.below⟩
    · -- no
      have hp72 := hp51.2 hb60; clear hp51
      refine wp_skip ?_
      refine thn ?_
      refine wp_seq ?_
      have hF73 : Fr 43 [] [⟨1, [], .slice ao1 u1.length cap2⟩, ⟨2, [], .pointer (some ⟨b6, 0, none⟩)⟩, ⟨4, [], .pointer (some ⟨b11, 0, none⟩)⟩] a57 := hF58.region (by kernel_rfl) (by kernel_rfl); clear hF58
      refine sqR ?_
      refine st hF73 (.slice ao1 u1.length cap2) (nog rfl _) rfl (by kernel_rfl) (p0 hF73 (by kernel_rfl)) ?_; intro a74 hF75; clear hF73
      refine st hF75 (.int .i64 (u1.length : Int)) (nog rfl _) rfl (by kernel_rfl) (p0 hF75 (by kernel_rfl)) ?_; intro a76 hF77; clear hF75
      refine st hF77 (.int .i64 0) (nog rfl _) rfl (by kernel_rfl) (p0 hF77 (by kernel_rfl)) ?_; intro a78 hF79; clear hF77
      have hM80 : Mem w.heap.size [] w Z [.row b11 [.int .i64 0, .int .i64 0, .int .i64 0] 28, .row b6 [.int .i64 u0.Sent, .int .i64 u0.Got, .int .i64 u0.Rest] 28] Z wd26 := hM59; clear hM59
      refine nlT ?_
      refine wp_block ?_
      have hF81 : Fr 43 [] [⟨2, [], .pointer (some ⟨b6, 0, none⟩)⟩, ⟨4, [], .pointer (some ⟨b11, 0, none⟩)⟩, ⟨22, [], .slice ao1 u1.length cap2⟩, ⟨23, [], .int .i64 (u1.length : Int)⟩, ⟨24, [], .int .i64 0⟩] a78 := hF79.region (by kernel_rfl) (by kernel_rfl); clear hF79
      have hF83 : Fr 43 [] [⟨2, [], .pointer (some ⟨b6, 0, none⟩)⟩, ⟨4, [], .pointer (some ⟨b11, 0, none⟩)⟩, ⟨22, [], .slice ao1 u1.length cap2⟩, ⟨23, [], .int .i64 (u1.length : Int)⟩, ⟨24, [], .int .i64 0⟩] a78 := hF81.region (by kernel_rfl) (by kernel_rfl); clear hF81
      obtain ⟨inv82, mu82, hI86, hr85⟩ := hp72
      refine lp (ι := Int × Health) (fun (s : Int × Health) => [⟨2, [], .pointer (some ⟨b6, 0, none⟩)⟩, ⟨4, [], .pointer (some ⟨b11, 0, none⟩)⟩, ⟨22, [], .slice ao1 u1.length cap2⟩, ⟨23, [], .int .i64 (u1.length : Int)⟩, ⟨24, [], .int .i64 s.1⟩]) (fun (s : Int × Health) => [.row b11 [.int .i64 0, .int .i64 0, .int .i64 0] 28, .row b6 [.int .i64 s.2.Sent, .int .i64 s.2.Got, .int .i64 s.2.Rest] 28]) (fun (s : Int × Health) => Z) (fun (s : Int × Health) => inv82 s.1 s.2) (fun (s : Int × Health) => mu82 s.1 s.2) ⟨0, u0⟩ hI86 (by exact hF83.region (by kernel_rfl) (by kernel_rfl)) (by exact hM80) ?_
      rintro ⟨x24, yb6⟩ hI84 a88 wd89 hF90 hM91
      have hF92 : Fr 43 [] [⟨2, [], .pointer (some ⟨b6, 0, none⟩)⟩, ⟨4, [], .pointer (some ⟨b11, 0, none⟩)⟩, ⟨22, [], .slice ao1 u1.length cap2⟩, ⟨23, [], .int .i64 (u1.length : Int)⟩, ⟨24, [], .int .i64 x24⟩] a88 := hF90; clear hF90 hF83
      have hM93 : Mem w.heap.size [] w Z [.row b11 [.int .i64 0, .int .i64 0, .int .i64 0] 28, .row b6 [.int .i64 yb6.Sent, .int .i64 yb6.Got, .int .i64 yb6.Rest] 28] Z wd89 := hM91; clear hM91 hM80
      have hp94 := hr85 x24 yb6 hI84
      have hF95 : Fr 43 [] [⟨2, [], .pointer (some ⟨b6, 0, none⟩)⟩, ⟨4, [], .pointer (some ⟨b11, 0, none⟩)⟩, ⟨22, [], .slice ao1 u1.length cap2⟩, ⟨23, [], .int .i64 (u1.length : Int)⟩, ⟨24, [], .int .i64 x24⟩] a88 := hF92.region (by kernel_rfl) (by kernel_rfl); clear hF92
      refine sqR ?_
      refine st hF95 (.bool (decide (x24 < (u1.length : Int)))) (nog rfl _) rfl (by kernel_rfl) (p0 hF95 (by kernel_rfl)) ?_; intro a96 hF97; clear hF95
      have hM98 : Mem w.heap.size [] w Z [.row b11 [.int .i64 0, .int .i64 0, .int .i64 0] 28, .row b6 [.int .i64 yb6.Sent, .int .i64 yb6.Got, .int .i64 yb6.Rest] 28] Z wd89 := hM93; clear hM93
      refine nlT ?_
      refine wp_seq ?_
      refine cd hF97 (t := decide (x24 < (u1.length : Int))) (by kernel_rfl) (fun hb99 => ?_) (fun hb99 => ?_)
      · -- yes
        have hp100 := hp94.1 hb99; clear hp94
        refine wp_skip ?_
        refine thn ?_
        refine wp_seq ?_
        refine wp_block ?_
        have hF101 : Fr 43 [] [⟨2, [], .pointer (some ⟨b6, 0, none⟩)⟩, ⟨4, [], .pointer (some ⟨b11, 0, none⟩)⟩, ⟨22, [], .slice ao1 u1.length cap2⟩, ⟨23, [], .int .i64 (u1.length : Int)⟩, ⟨24, [], .int .i64 x24⟩] a96 := hF97.region (by kernel_rfl) (by kernel_rfl); clear hF97
        refine sqR ?_
        refine st hF101 (.int .i64 x24) (nog rfl _) rfl (by kernel_rfl) (p0 hF101 (by kernel_rfl)) ?_; intro a102 hF103; clear hF101
        have hc104 := hp100.1; have hp105 := hp100.2; clear hp100
        refine ix hF103 (T := (tyInt .i64)) (xs := u1) hs3 x24 hc104 (k := .i64) (e := 3) (bytes := 8) (nog rfl _) rfl (by kernel_rfl) rfl (by kernel_rfl) (by kernel_rfl) (by kernel_rfl) ?_; intro b106 off107 cs108 q109 a113 hq110 hP111 hT112 hF114; clear hF103
        have hp115 := hp105 q109 hq110; clear hp105
        obtain rfl : cs108 = ([.int .i64 q109] : List Value) := hT112
        refine st hF114 (.int .i64 q109) (nog rfl _) rfl (by kernel_rfl) (lz hF114 hM98.fz hP111 0 (g := []) rfl (by kernel_rfl) (by kernel_rfl) (by kernel_rfl) rfl) ?_; intro a116 hF117; clear hF114
        refine st hF117 (.int .i64 x24) (nog rfl _) rfl (by kernel_rfl) (p0 hF117 (by kernel_rfl)) ?_; intro a118 hF119; clear hF117
        refine st hF119 (.int .i64 q109) (nog rfl _) rfl (by kernel_rfl) (p0 hF119 (by kernel_rfl)) ?_; intro a120 hF121; clear hF119
        have hM122 : Mem w.heap.size [] w Z [.row b11 [.int .i64 0, .int .i64 0, .int .i64 0] 28, .row b6 [.int .i64 yb6.Sent, .int .i64 yb6.Got, .int .i64 yb6.Rest] 28] Z wd89 := hM98; clear hM98
        refine nlT ?_
        have hF123 : Fr 43 [] [⟨2, [], .pointer (some ⟨b6, 0, none⟩)⟩, ⟨4, [], .pointer (some ⟨b11, 0, none⟩)⟩, ⟨8, [], .int .i64 x24⟩, ⟨9, [], .int .i64 q109⟩, ⟨22, [], .slice ao1 u1.length cap2⟩, ⟨23, [], .int .i64 (u1.length : Int)⟩, ⟨24, [], .int .i64 x24⟩] a120 := hF121.region (by kernel_rfl) (by kernel_rfl); clear hF121
        refine sqR ?_
        refine st hF123 (.agg #[.int .i64 yb6.Sent, .int .i64 yb6.Got, .int .i64 yb6.Rest]) (nog rfl _) rfl (by kernel_rfl) (lda hF123 hM122 1 (g := []) (b := b6) (off := 0) (k := 3) (cs := [.int .i64 yb6.Sent, .int .i64 yb6.Got, .int .i64 yb6.Rest]) (vs := [.int .i64 yb6.Sent, .int .i64 yb6.Got, .int .i64 yb6.Rest]) (ty := 28) rfl (by kernel_rfl) (by kernel_rfl) (by kernel_rfl) (by kernel_rfl) (by kernel_rfl) rfl) ?_; intro a124 hF125; clear hF123
        refine st hF125 (.int .i64 q109) (nog rfl _) rfl (by kernel_rfl) (p0 hF125 (by kernel_rfl)) ?_; intro a126 hF127; clear hF125
        refine fcl hF127 hM122 (.tuple #[.agg #[.int .i64 (((hchange yb6 q109).1).Sent), .int .i64 (((hchange yb6 q109).1).Got), .int .i64 (((hchange yb6 q109).1).Rest)], .int .i64 ((hchange yb6 q109).2)]) 17 #[.agg #[.int .i64 yb6.Sent, .int .i64 yb6.Got, .int .i64 yb6.Rest], .int .i64 q109] (nog rfl _) rfl (by kernel_rfl) (fun _ => by kernel_rfl) (hchange_fun yb6 q109 _ _ hM122.fz) ?_; intro a128 wd130 hF129 hM131; clear hF127 hM122
        refine st hF129 (.tuple #[.agg #[.int .i64 (((hchange yb6 q109).1).Sent), .int .i64 (((hchange yb6 q109).1).Got), .int .i64 (((hchange yb6 q109).1).Rest)], .int .i64 ((hchange yb6 q109).2)]) (nog rfl _) rfl (by kernel_rfl) (p0 hF129 (by kernel_rfl)) ?_; intro a132 hF133; clear hF129
        refine st hF133 (.agg #[.int .i64 (((hchange yb6 q109).1).Sent), .int .i64 (((hchange yb6 q109).1).Got), .int .i64 (((hchange yb6 q109).1).Rest)]) (nog rfl _) rfl (by kernel_rfl) (p0 hF133 (by kernel_rfl)) ?_; intro a134 hF135; clear hF133
        refine st hF135 (.int .i64 ((hchange yb6 q109).2)) (nog rfl _) rfl (by kernel_rfl) (p0 hF135 (by kernel_rfl)) ?_; intro a136 hF137; clear hF135
        refine sn hF137 hM131 (fun b => .pointer (some ⟨b, 0, none⟩)) [.int .i64 0, .int .i64 0, .int .i64 0] 28 (nog rfl _) rfl (by kernel_rfl) (by kernel_rfl) ?_; intro b138 a139 wd141 hF140 hM142; clear hF137 hM131
        refine sr hF140 hM142 0 [.int .i64 (((hchange yb6 q109).1).Sent), .int .i64 (((hchange yb6 q109).1).Got), .int .i64 (((hchange yb6 q109).1).Rest)] (b := b138) (off := 0) (cs := [.int .i64 0, .int .i64 0, .int .i64 0]) (ty := 28) (u := .agg #[.int .i64 (((hchange yb6 q109).1).Sent), .int .i64 (((hchange yb6 q109).1).Got), .int .i64 (((hchange yb6 q109).1).Rest)]) (nog rfl _) rfl rfl (by kernel_rfl) (by kernel_rfl) (by kernel_rfl) (by kernel_rfl) (by kernel_rfl) (by kernel_rfl) (by kernel_rfl) ?_; intro wd143 hM144; clear hM142
        refine st hF140 (.int .i64 ((hchange yb6 q109).2)) (nog rfl _) rfl (by kernel_rfl) (p0 hF140 (by kernel_rfl)) ?_; intro a145 hF146; clear hF140
        have hM147 : Mem w.heap.size [] w Z [.row b138 [.int .i64 (((hchange yb6 q109).1).Sent), .int .i64 (((hchange yb6 q109).1).Got), .int .i64 (((hchange yb6 q109).1).Rest)] 28, .row b11 [.int .i64 0, .int .i64 0, .int .i64 0] 28, .row b6 [.int .i64 yb6.Sent, .int .i64 yb6.Got, .int .i64 yb6.Rest] 28] Z wd143 := hM144; clear hM144
        refine nlT ?_
        refine wp_seq ?_
        have hF148 : Fr 43 [] [⟨2, [], .pointer (some ⟨b6, 0, none⟩)⟩, ⟨4, [], .pointer (some ⟨b11, 0, none⟩)⟩, ⟨8, [], .int .i64 x24⟩, ⟨10, [], .pointer (some ⟨b138, 0, none⟩)⟩, ⟨11, [], .int .i64 ((hchange yb6 q109).2)⟩, ⟨22, [], .slice ao1 u1.length cap2⟩, ⟨23, [], .int .i64 (u1.length : Int)⟩, ⟨24, [], .int .i64 x24⟩] a145 := hF146.region (by kernel_rfl) (by kernel_rfl); clear hF146
        refine sqR ?_
        refine st hF148 (.int .i64 ((hchange yb6 q109).2)) (nog rfl _) rfl (by kernel_rfl) (p0 hF148 (by kernel_rfl)) ?_; intro a149 hF150; clear hF148
        refine st hF150 (.bool (((hchange yb6 q109).2) != 0)) (nog rfl _) rfl (by kernel_rfl) (p0 hF150 (by kernel_rfl)) ?_; intro a151 hF152; clear hF150
        have hM153 : Mem w.heap.size [] w Z [.row b138 [.int .i64 (((hchange yb6 q109).1).Sent), .int .i64 (((hchange yb6 q109).1).Got), .int .i64 (((hchange yb6 q109).1).Rest)] 28, .row b11 [.int .i64 0, .int .i64 0, .int .i64 0] 28, .row b6 [.int .i64 yb6.Sent, .int .i64 yb6.Got, .int .i64 yb6.Rest] 28] Z wd143 := hM147; clear hM147
        refine nlT ?_
        refine cd hF152 (t := ((hchange yb6 q109).2) != 0) (by kernel_rfl) (fun hb154 => ?_) (fun hb154 => ?_)
        · -- yes
          have hp155 := hp115.1 hb154; clear hp115
          have hF156 : Fr 43 [] [⟨4, [], .pointer (some ⟨b11, 0, none⟩)⟩, ⟨8, [], .int .i64 x24⟩, ⟨11, [], .int .i64 ((hchange yb6 q109).2)⟩] a151 := hF152.region (by kernel_rfl) (by kernel_rfl); clear hF152
          refine sqR ?_
          refine st hF156 (.agg #[.int .i64 0, .int .i64 0, .int .i64 0]) (nog rfl _) rfl (by kernel_rfl) (p0 hF156 (by kernel_rfl)) ?_; intro a157 hF158; clear hF156
          refine st hF158 (.int .i64 x24) (nog rfl _) rfl (by kernel_rfl) (p0 hF158 (by kernel_rfl)) ?_; intro a159 hF160; clear hF158
          refine st hF160 (.int .i64 ((hchange yb6 q109).2)) (nog rfl _) rfl (by kernel_rfl) (p0 hF160 (by kernel_rfl)) ?_; intro a161 hF162; clear hF160
          refine sr hF162 hM153 1 [.int .i64 0, .int .i64 0, .int .i64 0] (b := b11) (off := 0) (cs := [.int .i64 0, .int .i64 0, .int .i64 0]) (ty := 28) (u := .agg #[.int .i64 0, .int .i64 0, .int .i64 0]) (nog rfl _) rfl rfl (by kernel_rfl) (by kernel_rfl) (by kernel_rfl) (by kernel_rfl) (by kernel_rfl) (by kernel_rfl) (by kernel_rfl) ?_; intro wd163 hM164; clear hM153
          refine st hF162 (.int .i64 x24) (nog rfl _) rfl (by kernel_rfl) (p0 hF162 (by kernel_rfl)) ?_; intro a165 hF166; clear hF162
          refine st hF166 (.int .i64 ((hchange yb6 q109).2)) (nog rfl _) rfl (by kernel_rfl) (p0 hF166 (by kernel_rfl)) ?_; intro a167 hF168; clear hF166
          have hM169 : Mem w.heap.size [] w Z [.row b138 [.int .i64 (((hchange yb6 q109).1).Sent), .int .i64 (((hchange yb6 q109).1).Got), .int .i64 (((hchange yb6 q109).1).Rest)] 28, .row b11 [.int .i64 0, .int .i64 0, .int .i64 0] 28, .row b6 [.int .i64 yb6.Sent, .int .i64 yb6.Got, .int .i64 yb6.Rest] 28] Z wd163 := hM164; clear hM164
          refine nlT ?_
          refine wp_ret ?_
          refine thr ?_
          refine ibr ?_
          refine thr ?_
          refine thr ?_
          refine ibr ?_
          refine thr ?_
          refine rt (fn := Try.f8) (v := .tuple #[.agg #[.int .i64 0, .int .i64 0, .int .i64 0], .int .i64 x24, .int .i64 ((hchange yb6 q109).2)]) hF168 (re3c hF168 (fn := Try.f8) rfl (ad := ⟨b11, 0, none⟩) (by kernel_rfl) (loadVar_run hM169 1 (b := b11) (k := 3) (vs := [.int .i64 0, .int .i64 0, .int .i64 0]) (ty := 28) rfl (by kernel_rfl) (by kernel_rfl)) (by kernel_rfl) (by kernel_rfl)) ?_
          exact ⟨((⟨0, 0, 0⟩ : Health), x24, (hchange yb6 q109).2), rfl, hp155, hM169.below⟩
        · -- no
          have hp170 := hp115.2 hb154; clear hp115
          refine wp_skip ?_
          refine thn ?_
          have hF171 : Fr 43 [] [⟨2, [], .pointer (some ⟨b6, 0, none⟩)⟩, ⟨4, [], .pointer (some ⟨b11, 0, none⟩)⟩, ⟨10, [], .pointer (some ⟨b138, 0, none⟩)⟩, ⟨22, [], .slice ao1 u1.length cap2⟩, ⟨23, [], .int .i64 (u1.length : Int)⟩, ⟨24, [], .int .i64 x24⟩] a151 := hF152.region (by kernel_rfl) (by kernel_rfl); clear hF152
          refine wp_region_lit ?_
          refine st hF171 (.agg #[.int .i64 (((hchange yb6 q109).1).Sent), .int .i64 (((hchange yb6 q109).1).Got), .int .i64 (((hchange yb6 q109).1).Rest)]) (nog rfl _) rfl (by kernel_rfl) (lda hF171 hM153 0 (g := []) (b := b138) (off := 0) (k := 3) (cs := [.int .i64 (((hchange yb6 q109).1).Sent), .int .i64 (((hchange yb6 q109).1).Got), .int .i64 (((hchange yb6 q109).1).Rest)]) (vs := [.int .i64 (((hchange yb6 q109).1).Sent), .int .i64 (((hchange yb6 q109).1).Got), .int .i64 (((hchange yb6 q109).1).Rest)]) (ty := 28) rfl (by kernel_rfl) (by kernel_rfl) (by kernel_rfl) (by kernel_rfl) (by kernel_rfl) rfl) ?_; intro a172 hF173; clear hF171
          refine sr hF173 hM153 2 [.int .i64 (((hchange yb6 q109).1).Sent), .int .i64 (((hchange yb6 q109).1).Got), .int .i64 (((hchange yb6 q109).1).Rest)] (b := b6) (off := 0) (cs := [.int .i64 yb6.Sent, .int .i64 yb6.Got, .int .i64 yb6.Rest]) (ty := 28) (u := .agg #[.int .i64 (((hchange yb6 q109).1).Sent), .int .i64 (((hchange yb6 q109).1).Got), .int .i64 (((hchange yb6 q109).1).Rest)]) (nog rfl _) rfl rfl (by kernel_rfl) (by kernel_rfl) (by kernel_rfl) (by kernel_rfl) (by kernel_rfl) (by kernel_rfl) (by kernel_rfl) ?_; intro wd174 hM175; clear hM153
          have hM176 : Mem w.heap.size [] w Z [.row b138 [.int .i64 (((hchange yb6 q109).1).Sent), .int .i64 (((hchange yb6 q109).1).Got), .int .i64 (((hchange yb6 q109).1).Rest)] 28, .row b11 [.int .i64 0, .int .i64 0, .int .i64 0] 28, .row b6 [.int .i64 (((hchange yb6 q109).1).Sent), .int .i64 (((hchange yb6 q109).1).Got), .int .i64 (((hchange yb6 q109).1).Rest)] 28] Z wd174 := hM175; clear hM175
          refine nl ?_
          refine ibn ?_
          refine thn ?_
          have hF177 : Fr 43 [] [⟨2, [], .pointer (some ⟨b6, 0, none⟩)⟩, ⟨4, [], .pointer (some ⟨b11, 0, none⟩)⟩, ⟨22, [], .slice ao1 u1.length cap2⟩, ⟨23, [], .int .i64 (u1.length : Int)⟩, ⟨24, [], .int .i64 x24⟩] a172 := hF173.region (by kernel_rfl) (by kernel_rfl); clear hF173
          refine wp_region_lit ?_
          refine st hF177 (.int .i64 (w64 (x24 + 1))) (nog rfl _) rfl (by kernel_rfl) (p0 hF177 (by kernel_rfl)) ?_; intro a178 hF179; clear hF177
          refine st hF179 (.int .i64 (w64 (x24 + 1))) (nog rfl _) rfl (by kernel_rfl) (p0 hF179 (by kernel_rfl)) ?_; intro a180 hF181; clear hF179
          have hM182 : Mem w.heap.size [] w Z [.row b138 [.int .i64 (((hchange yb6 q109).1).Sent), .int .i64 (((hchange yb6 q109).1).Got), .int .i64 (((hchange yb6 q109).1).Rest)] 28, .row b11 [.int .i64 0, .int .i64 0, .int .i64 0] 28, .row b6 [.int .i64 (((hchange yb6 q109).1).Sent), .int .i64 (((hchange yb6 q109).1).Got), .int .i64 (((hchange yb6 q109).1).Rest)] 28] Z wd174 := hM176; clear hM176
          refine nl ?_
          refine rd ?_
          exact ⟨⟨w64 (x24 + 1), ((hchange yb6 q109).1)⟩, hp170.1, hp170.2, (hF181.region (by kernel_rfl) (by kernel_rfl)).anyβ _ (by kernel_rfl), hM182.keep (List.Sublist.cons _ (List.Sublist.cons_cons _ (List.Sublist.cons_cons _ (List.Sublist.slnil))))⟩
      · -- no
        have hp183 := hp94.2 hb99; clear hp94
        refine wp_exit ?_
        refine thx ?_
        refine thx ?_
        refine ibx ?_
        refine thn ?_
        have hF184 : Fr 43 [] [⟨2, [], .pointer (some ⟨b6, 0, none⟩)⟩, ⟨4, [], .pointer (some ⟨b11, 0, none⟩)⟩] a96 := hF97.region (by kernel_rfl) (by kernel_rfl); clear hF97
        refine sqR ?_
        refine st hF184 (.agg #[.int .i64 yb6.Sent, .int .i64 yb6.Got, .int .i64 yb6.Rest]) (nog rfl _) rfl (by kernel_rfl) (lda hF184 hM98 1 (g := []) (b := b6) (off := 0) (k := 3) (cs := [.int .i64 yb6.Sent, .int .i64 yb6.Got, .int .i64 yb6.Rest]) (vs := [.int .i64 yb6.Sent, .int .i64 yb6.Got, .int .i64 yb6.Rest]) (ty := 28) rfl (by kernel_rfl) (by kernel_rfl) (by kernel_rfl) (by kernel_rfl) (by kernel_rfl) rfl) ?_; intro a185 hF186; clear hF184
        refine sr hF186 hM98 0 [.int .i64 yb6.Sent, .int .i64 yb6.Got, .int .i64 yb6.Rest] (b := b11) (off := 0) (cs := [.int .i64 0, .int .i64 0, .int .i64 0]) (ty := 28) (u := .agg #[.int .i64 yb6.Sent, .int .i64 yb6.Got, .int .i64 yb6.Rest]) (nog rfl _) rfl rfl (by kernel_rfl) (by kernel_rfl) (by kernel_rfl) (by kernel_rfl) (by kernel_rfl) (by kernel_rfl) (by kernel_rfl) ?_; intro wd187 hM188; clear hM98
        refine st hF186 (.int .i64 0) (nog rfl _) rfl (by kernel_rfl) (p0 hF186 (by kernel_rfl)) ?_; intro a189 hF190; clear hF186
        refine st hF190 (.int .i64 0) (nog rfl _) rfl (by kernel_rfl) (p0 hF190 (by kernel_rfl)) ?_; intro a191 hF192; clear hF190
        have hM193 : Mem w.heap.size [] w Z [.row b11 [.int .i64 yb6.Sent, .int .i64 yb6.Got, .int .i64 yb6.Rest] 28, .row b6 [.int .i64 yb6.Sent, .int .i64 yb6.Got, .int .i64 yb6.Rest] 28] Z wd187 := hM188; clear hM188
        refine nlT ?_
        refine wp_ret ?_
        refine rt (fn := Try.f8) (v := .tuple #[.agg #[.int .i64 yb6.Sent, .int .i64 yb6.Got, .int .i64 yb6.Rest], .int .i64 0, .int .i64 0]) hF192 (re3c hF192 (fn := Try.f8) rfl (ad := ⟨b11, 0, none⟩) (by kernel_rfl) (loadVar_run hM193 0 (b := b11) (k := 3) (vs := [.int .i64 yb6.Sent, .int .i64 yb6.Got, .int .i64 yb6.Rest]) (ty := 28) rfl (by kernel_rfl) (by kernel_rfl)) (by kernel_rfl) (by kernel_rfl)) ?_
        exact ⟨(yb6, 0, 0), rfl, hp183, hM193.below⟩

end Go.Proofs.Ytodkadlfhlagpaa
