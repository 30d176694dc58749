/- The walks, made by program: each call does what its pure predicate says. -/
import Derived.Test.YtkogkombalcgeaaRows
import Derived.Test.YtkogkombalcgeaaPA
set_option linter.unusedVariables false
set_option linter.unusedSimpArgs false
namespace Go.Proofs.Ytkogkombalcgeaa
open Go.Sy Go.RowKit
theorem mixed : Try.prog.follows .mixedOrders = true := by kernel_rfl
theorem rdFilter : Rd Try.prog 28 tyFilter okFilter := by
  refine ⟨fun enc w fuel cs x h hw => ?_⟩
  have hu : Try.prog.underlying 28 = some (.struct _) := Try.underlying28
  have hl := rd_len hu h (m := 3) (by kernel_rfl)
  obtain ⟨q0, h0, k0⟩ := rd_field hu h hw 0 rfl (rd_int (P := Try.prog) (t := 3) (k := .i64) (by kernel_rfl)) (m := 1) (by kernel_rfl) (off := 0) rfl
  have e0 : (cs.drop 0).take 1 = [.int .i64 q0] := h0
  obtain ⟨q1, h1, k1⟩ := rd_field hu h hw 1 rfl (rd_int (P := Try.prog) (t := 3) (k := .i64) (by kernel_rfl)) (m := 1) (by kernel_rfl) (off := 1) rfl
  have e1 : (cs.drop 1).take 1 = [.int .i64 q1] := h1
  obtain ⟨q2, h2, k2⟩ := rd_field hu h hw 2 rfl (rd_bool (P := Try.prog) (t := 4) (by kernel_rfl)) (m := 1) (by kernel_rfl) (off := 2) rfl
  have e2 : (cs.drop 2).take 1 = [.bool q2] := h2
  have z : cs.drop 3 = [] := List.drop_eq_nil_of_le (by omega)
  have g2 : cs.drop 2 = [.bool q2] := by rw [show cs.drop 2 = (cs.drop 2).take 1 ++ cs.drop 3 from cut_at cs 2 1, e2, z]; rfl
  have g1 : cs.drop 1 = [.int .i64 q1, .bool q2] := by rw [show cs.drop 1 = (cs.drop 1).take 1 ++ cs.drop 2 from cut_at cs 1 1, e1, g2]; rfl
  have g0 : cs.drop 0 = [.int .i64 q0, .int .i64 q1, .bool q2] := by rw [show cs.drop 0 = (cs.drop 0).take 1 ++ cs.drop 1 from cut_at cs 0 1, e0, g1]; rfl
  refine ⟨⟨q0, q1, q2⟩, ?_, k0, k1, k2⟩
  rw [List.drop_zero] at g0
  exact g0

theorem rdFrame : Rd Try.prog 38 tyFrame okFrame := by
  refine ⟨fun enc w fuel cs x h hw => ?_⟩
  have hu : Try.prog.underlying 38 = some (.struct _) := Try.underlying38
  have hl := rd_len hu h (m := 6) (by kernel_rfl)
  obtain ⟨q0, h0, k0⟩ := rd_field hu h hw 0 rfl (rd_int (P := Try.prog) (t := 3) (k := .i64) (by kernel_rfl)) (m := 1) (by kernel_rfl) (off := 0) rfl
  have e0 : (cs.drop 0).take 1 = [.int .i64 q0] := h0
  obtain ⟨q1, h1, k1⟩ := rd_field hu h hw 1 rfl (rd_bool (P := Try.prog) (t := 4) (by kernel_rfl)) (m := 1) (by kernel_rfl) (off := 1) rfl
  have e1 : (cs.drop 1).take 1 = [.bool q1] := h1
  obtain ⟨q2, h2, k2⟩ := rd_field hu h hw 2 rfl (rd_bool (P := Try.prog) (t := 4) (by kernel_rfl)) (m := 1) (by kernel_rfl) (off := 2) rfl
  have e2 : (cs.drop 2).take 1 = [.bool q2] := h2
  obtain ⟨q3, h3, k3⟩ := rd_field hu h hw 3 rfl (rd_bool (P := Try.prog) (t := 4) (by kernel_rfl)) (m := 1) (by kernel_rfl) (off := 3) rfl
  have e3 : (cs.drop 3).take 1 = [.bool q3] := h3
  obtain ⟨q4, h4, k4⟩ := rd_field hu h hw 4 rfl (rd_int (P := Try.prog) (t := 3) (k := .i64) (by kernel_rfl)) (m := 1) (by kernel_rfl) (off := 4) rfl
  have e4 : (cs.drop 4).take 1 = [.int .i64 q4] := h4
  obtain ⟨q5, h5, k5⟩ := rd_field hu h hw 5 rfl (rd_slice (P := Try.prog) (t := 36) (e := 5) (bytes := 1) (by kernel_rfl) (rd_int (P := Try.prog) (t := 5) (k := .u8) (by kernel_rfl))) (m := 1) (by kernel_rfl) (off := 5) rfl
  obtain ⟨ao0, cap0, h5, s0⟩ := h5
  have e5 : (cs.drop 5).take 1 = [.slice ao0 q5.length cap0] := h5
  have z : cs.drop 6 = [] := List.drop_eq_nil_of_le (by omega)
  have g5 : cs.drop 5 = [.slice ao0 q5.length cap0] := by rw [show cs.drop 5 = (cs.drop 5).take 1 ++ cs.drop 6 from cut_at cs 5 1, e5, z]; rfl
  have g4 : cs.drop 4 = [.int .i64 q4, .slice ao0 q5.length cap0] := by rw [show cs.drop 4 = (cs.drop 4).take 1 ++ cs.drop 5 from cut_at cs 4 1, e4, g5]; rfl
  have g3 : cs.drop 3 = [.bool q3, .int .i64 q4, .slice ao0 q5.length cap0] := by rw [show cs.drop 3 = (cs.drop 3).take 1 ++ cs.drop 4 from cut_at cs 3 1, e3, g4]; rfl
  have g2 : cs.drop 2 = [.bool q2, .bool q3, .int .i64 q4, .slice ao0 q5.length cap0] := by rw [show cs.drop 2 = (cs.drop 2).take 1 ++ cs.drop 3 from cut_at cs 2 1, e2, g3]; rfl
  have g1 : cs.drop 1 = [.bool q1, .bool q2, .bool q3, .int .i64 q4, .slice ao0 q5.length cap0] := by rw [show cs.drop 1 = (cs.drop 1).take 1 ++ cs.drop 2 from cut_at cs 1 1, e1, g2]; rfl
  have g0 : cs.drop 0 = [.int .i64 q0, .bool q1, .bool q2, .bool q3, .int .i64 q4, .slice ao0 q5.length cap0] := by rw [show cs.drop 0 = (cs.drop 0).take 1 ++ cs.drop 1 from cut_at cs 0 1, e0, g1]; rfl
  refine ⟨⟨q0, q1, q2, q3, q4, q5⟩, ?_, k0, k1, k2, k3, k4, k5⟩
  rw [List.drop_zero] at g0
  exact ⟨ao0, cap0, g0, s0⟩

set_option maxRecDepth 100000 in
theorem ftop_walk (u0 : Bool)  (Z : Fz) (w : World)  (hZ : Z.on w) {K : Int → Prop} (hp : ftop_vc u0 K) : Calls Try.prog 48 #[.bool u0] w fun e w' => ∃ r : Int, e = .returned (.int .i64 r) ∧ K r ∧ Below w.heap.size w w' := by
 refine enter0 Try.func48 rfl rfl (by kernel_rfl) ?_; intro a0 hF0; have hM0 := Mem.start w Z hZ; have hle0 := Fz.le.refl Z
 refine sqH ?_; intro hQ1Q hQ1
 refine s1 hF0 2 (.int .i64 0) ?_; intro a2 hF3; clear hF0
 refine nlH (hQ1 _ _ ?_); clear hQ1 hQ1Q
 refine wp_seq ?_
 refine sqH ?_; intro hQ4Q hQ4
 refine s1 hF3 3 (.bool u0) ?_; intro a5 hF6; clear hF3
 refine nlH (hQ4 _ _ ?_); clear hQ4 hQ4Q
 refine cd hF6 (t := u0) (by kernel_rfl) (fun hb7 => ?_) (fun hb7 => ?_)
 · -- yes
  have hp8 := hp.1 hb7; clear hp
  refine sqH ?_; intro hQ9Q hQ9
  refine s1 hF6 2 (.int .i64 536870911) ?_; intro a10 hF11; clear hF6
  refine nlH (hQ9 _ _ ?_); clear hQ9 hQ9Q
  refine wp_ret ?_
  refine thr ?_
  refine rt (fn := Try.f48) (v := .int .i64 536870911) hF11 (re1 hF11 (fn := Try.f48) rfl (by kernel_rfl)) ?_
  exact ⟨536870911, rfl, hp8, hM0.below⟩
 · -- no
  have hp12 := hp.2 hb7; clear hp
  refine wp_skip ?_
  refine thn ?_
  refine sqH ?_; intro hQ13Q hQ13
  refine s1 hF6 2 (.int .i64 2047) ?_; intro a14 hF15; clear hF6
  refine nlH (hQ13 _ _ ?_); clear hQ13 hQ13Q
  refine wp_ret ?_
  refine rt (fn := Try.f48) (v := .int .i64 2047) hF15 (re1 hF15 (fn := Try.f48) rfl (by kernel_rfl)) ?_
  exact ⟨2047, rfl, hp12, hM0.below⟩
theorem ftop_fun (u0 : Bool)  (Z : Fz) (w : World)  (hZ : Z.on w) : Calls Try.prog 48 #[.bool u0] w fun e w' => e = .returned (.int .i64 (ftop u0)) ∧ Below w.heap.size w w' :=
  (ftop_walk u0  Z w  hZ (ftop_ok u0)).mono fun _ _ ⟨r, he, hk, hb⟩ => ⟨by subst hk; exact he, hb⟩

set_option maxRecDepth 100000 in
theorem franges_walk (u0 : Int) (u1 : Int) (u2 : Bool)  (Z : Fz) (w : World)  (hZ : Z.on w) {K : ((List Filter) × Int) → Prop} (hp : franges_vc u0 u1 u2 K) : Calls Try.prog 15 #[.int .i64 u0, .int .i64 u1, .bool u2] w fun e w' => ∃ (r : (List Filter) × Int) (ao1001 : Option Addr) (cap1002 : Nat) (Z' : Fz), e = .returned (.tuple #[.slice ao1001 r.1.length cap1002, .int .i64 r.2]) ∧ K r ∧ Mem w.heap.size [] w Z [.own tyFilter 28 ao1001 cap1002 r.1] Z' w' := by
 refine enter0 Try.func15 rfl rfl (by kernel_rfl) ?_; intro a0 hF0; have hM0 := Mem.start w Z hZ; have hle0 := Fz.le.refl Z
 refine sqH ?_; intro hQ1Q hQ1
 refine s1 hF0 6 (.slice none 0 0) ?_; intro a2 hF3; clear hF0
 refine s1 hF3 7 (.int .i64 0) ?_; intro a4 hF5; clear hF3
 refine nlH (hQ1 _ _ ?_); clear hQ1 hQ1Q
 refine wp_seq ?_
 refine sqH ?_; intro hQ6Q hQ6
 refine s1 hF5 10 (.int .i64 u0) ?_; intro a7 hF8; clear hF5
 refine s1 hF8 11 (.bool (decide (u0 < 0))) ?_; intro a9 hF10; clear hF8
 refine s1 hF10 12 (.bool (decide (u0 < 0))) ?_; intro a11 hF12; clear hF10
 have hF13 := hF12.atom ((decide (u0 < 0)) == false) (by kernel_rfl); clear hF12
 refine gp hF13 13 0 [] (decide (u0 < 0)) (.int .i64 u1) rfl rfl ?_; intro a14 hF15; clear hF13
 refine gp hF15 14 0 [] (decide (u0 < 0)) (.bool u2) rfl rfl ?_; intro a16 hF17; clear hF15
 refine gcl hF17 hM0 (.int .i64 (ftop u2)) 48 #[.bool u2] (m := 0) (cj := []) (bj := decide (u0 < 0)) rfl rfl (by kernel_rfl) rfl (by kernel_rfl) (by kernel_rfl) (by kernel_rfl) (fun _ => by kernel_rfl) (fun hg => ftop_fun u2 _ _ hM0.fz) ?_; intro a18 wd20 hF19 hM21; clear hF17 hM0
 refine gp hF19 16 0 [] (decide (u0 < 0)) (.bool (decide (u1 > (ftop u2)))) rfl rfl ?_; intro a22 hF23; clear hF19
 refine st hF23 (.bool ((decide (u0 < 0)) || (decide (u1 > (ftop u2))))) (nog rfl _) rfl (by kernel_rfl) (pk_or hF23 (g := []) (m := 0) (b := decide (u0 < 0)) (v := decide (u1 > (ftop u2))) rfl (by kernel_rfl) (by kernel_rfl) (by kernel_rfl) rfl) ?_; intro a24 hF25; clear hF23
 refine s1 hF25 18 (.bool ((decide (u0 < 0)) || (decide (u1 > (ftop u2))))) ?_; intro a26 hF27; clear hF25
 have hF28 := hF27.atom (((decide (u0 < 0)) || (decide (u1 > (ftop u2)))) == false) (by kernel_rfl); clear hF27
 refine gp hF28 19 1 [] ((decide (u0 < 0)) || (decide (u1 > (ftop u2)))) (.int .i64 u0) rfl rfl ?_; intro a29 hF30; clear hF28
 refine gp hF30 20 1 [] ((decide (u0 < 0)) || (decide (u1 > (ftop u2)))) (.int .i64 u1) rfl rfl ?_; intro a31 hF32; clear hF30
 refine gp hF32 21 1 [] ((decide (u0 < 0)) || (decide (u1 > (ftop u2)))) (.bool (decide (u0 > u1))) rfl rfl ?_; intro a33 hF34; clear hF32
 refine st hF34 (.bool (((decide (u0 < 0)) || (decide (u1 > (ftop u2)))) || (decide (u0 > u1)))) (nog rfl _) rfl (by kernel_rfl) (pk_or hF34 (g := []) (m := 1) (b := (decide (u0 < 0)) || (decide (u1 > (ftop u2)))) (v := decide (u0 > u1)) rfl (by kernel_rfl) (by kernel_rfl) (by kernel_rfl) rfl) ?_; intro a35 hF36; clear hF34
 refine nlH (hQ6 _ _ ?_); clear hQ6 hQ6Q
 refine cd hF36 (t := ((decide (u0 < 0)) || (decide (u1 > (ftop u2)))) || (decide (u0 > u1))) (by kernel_rfl) (fun hb37 => ?_) (fun hb37 => ?_)
 · -- yes
  have hp38 := hp.1 hb37; clear hp
  have hF39 : Fr 66 [] [] a35 := hF36.region (by kernel_rfl) (by kernel_rfl); clear hF36
  refine sqH ?_; intro hQ40Q hQ40
  refine s1 hF39 6 (.slice none 0 0) ?_; intro a41 hF42; clear hF39
  refine s1 hF42 7 (.int .i64 3) ?_; intro a43 hF44; clear hF42
  refine nlH (hQ40 _ _ ?_); clear hQ40 hQ40Q
  refine wp_ret ?_
  refine thr ?_
  have hM45 : Mem w.heap.size [] w Z [.own tyFilter 28 none 0 ([] : List Filter)] Z wd20 := hM21.addNil tyFilter 28 (by decide); clear hM21
  refine rt (fn := Try.f15) (v := .tuple #[.slice none ([] : List Filter).length 0, .int .i64 3]) hF44 (re2 hF44 (fn := Try.f15) rfl (by kernel_rfl) (by kernel_rfl)) ?_
  exact ⟨(([] : List Filter), 3), none, 0, Z, rfl, hp38, hM45.keep (List.Sublist.cons_cons _ (List.Sublist.slnil))⟩
 · -- no
  have hp46 := hp.2 hb37; clear hp
  refine wp_skip ?_
  refine thn ?_
  have hF47 : Fr 66 [] [⟨0, [], .int .i64 u0⟩, ⟨1, [], .int .i64 u1⟩, ⟨2, [], .bool u2⟩] a35 := hF36.region (by kernel_rfl) (by kernel_rfl); clear hF36
  refine sqH ?_; intro hQ48Q hQ48
  refine s1 hF47 8 (.slice none 0 0) ?_; intro a49 hF50; clear hF47
  refine nlH (hQ48 _ _ ?_); clear hQ48 hQ48Q
  refine wp_seq ?_
  refine wp_block ?_
  have hF51 : Fr 66 [] [⟨0, [], .int .i64 u0⟩, ⟨1, [], .int .i64 u1⟩, ⟨2, [], .bool u2⟩, ⟨8, [], .slice none 0 0⟩] a49 := hF50.region (by kernel_rfl) (by kernel_rfl); clear hF50
  have hM53 : Mem w.heap.size [] w Z [.own tyFilter 28 none 0 ([] : List Filter)] Z wd20 := hM21.addNil tyFilter 28 (by decide); clear hM21
  have hF54 : Fr 66 [] [⟨0, [], .int .i64 u0⟩, ⟨1, [], .int .i64 u1⟩, ⟨2, [], .bool u2⟩, ⟨8, [], .slice none ([] : List Filter).length 0⟩] a49 := hF51.region (by kernel_rfl) (by kernel_rfl); clear hF51
  obtain ⟨inv52, mu52, hI57, hr56⟩ := hp46
  refine lp (ι := Int × (List Filter) × (Option Addr) × Nat) (fun (s : Int × (List Filter) × (Option Addr) × Nat) => [⟨0, [], .int .i64 s.1⟩, ⟨1, [], .int .i64 u1⟩, ⟨2, [], .bool u2⟩, ⟨8, [], .slice s.2.2.1 s.2.1.length s.2.2.2⟩]) (fun (s : Int × (List Filter) × (Option Addr) × Nat) => [.own tyFilter 28 s.2.2.1 s.2.2.2 s.2.1]) (fun (s : Int × (List Filter) × (Option Addr) × Nat) => Z) (fun (s : Int × (List Filter) × (Option Addr) × Nat) => inv52 s.1 s.2.1) (fun (s : Int × (List Filter) × (Option Addr) × Nat) => mu52 s.1 s.2.1) ⟨u0, ([] : List Filter), none, 0⟩ hI57 (by exact hF54.region (by kernel_rfl) (by kernel_rfl)) (by exact hM53) ?_
  rintro ⟨x0, x8, aox8, capx8⟩ hI55 a59 wd60 hF61 hM62
  have hF63 : Fr 66 [] [⟨0, [], .int .i64 x0⟩, ⟨1, [], .int .i64 u1⟩, ⟨2, [], .bool u2⟩, ⟨8, [], .slice aox8 x8.length capx8⟩] a59 := hF61; clear hF61 hF54
  have hM64 : Mem w.heap.size [] w Z [.own tyFilter 28 aox8 capx8 x8] Z wd60 := hM62; clear hM62 hM53
  have hp65 := hr56 x0 x8 hI55
  refine wp_seq ?_
  refine sqH ?_; intro hQ66Q hQ66
  refine s1 hF63 23 (.int .i64 x0) ?_; intro a67 hF68; clear hF63
  refine s1 hF68 24 (.int .i64 u1) ?_; intro a69 hF70; clear hF68
  refine s1 hF70 25 (.bool (decide (x0 ≤ u1))) ?_; intro a71 hF72; clear hF70
  refine nlH (hQ66 _ _ ?_); clear hQ66 hQ66Q
  refine cd hF72 (t := decide (x0 ≤ u1)) (by kernel_rfl) (fun hb73 => ?_) (fun hb73 => ?_)
  · -- yes
   have hp74 := hp65.1 hb73; clear hp65
   refine wp_skip ?_
   refine thn ?_
   refine wp_block ?_
   refine sqH ?_; intro hQ75Q hQ75
   refine s1 hF72 9 (.int .i64 1) ?_; intro a76 hF77; clear hF72
   refine nlH (hQ75 _ _ ?_); clear hQ75 hQ75Q
   refine wp_seq ?_
   refine wp_block ?_
   have hF78 : Fr 66 [] [⟨0, [], .int .i64 x0⟩, ⟨1, [], .int .i64 u1⟩, ⟨2, [], .bool u2⟩, ⟨8, [], .slice aox8 x8.length capx8⟩, ⟨9, [], .int .i64 1⟩] a76 := hF77.region (by kernel_rfl) (by kernel_rfl); clear hF77
   have hF80 : Fr 66 [] [⟨0, [], .int .i64 x0⟩, ⟨1, [], .int .i64 u1⟩, ⟨2, [], .bool u2⟩, ⟨8, [], .slice aox8 x8.length capx8⟩, ⟨9, [], .int .i64 1⟩] a76 := hF78.region (by kernel_rfl) (by kernel_rfl); clear hF78
   obtain ⟨inv79, mu79, hI83, hr82⟩ := hp74
   refine lp (ι := Int) (fun (s : Int) => [⟨0, [], .int .i64 x0⟩, ⟨1, [], .int .i64 u1⟩, ⟨2, [], .bool u2⟩, ⟨8, [], .slice aox8 x8.length capx8⟩, ⟨9, [], .int .i64 s⟩]) (fun (s : Int) => [.own tyFilter 28 aox8 capx8 x8]) (fun (s : Int) => Z) (fun (s : Int) => inv79 s) (fun (s : Int) => mu79 s) 1 hI83 (by exact hF80.region (by kernel_rfl) (by kernel_rfl)) (by exact hM64) ?_
   rintro x9 hI81 a85 wd86 hF87 hM88
   have hF89 : Fr 66 [] [⟨0, [], .int .i64 x0⟩, ⟨1, [], .int .i64 u1⟩, ⟨2, [], .bool u2⟩, ⟨8, [], .slice aox8 x8.length capx8⟩, ⟨9, [], .int .i64 x9⟩] a85 := hF87; clear hF87 hF80
   have hM90 : Mem w.heap.size [] w Z [.own tyFilter 28 aox8 capx8 x8] Z wd86 := hM88; clear hM88 hM64
   have hp91 := hr82 x9 hI81
   refine wp_seq ?_
   refine sqH ?_; intro hQ92Q hQ92
   refine s1 hF89 26 (.int .i64 x0) ?_; intro a93 hF94; clear hF89
   refine s1 hF94 27 (.int .i64 x9) ?_; intro a95 hF96; clear hF94
   refine s1 hF96 28 (.int .i64 (w64 (2 * x9))) ?_; intro a97 hF98; clear hF96
   refine s1 hF98 29 (.int .i64 (w64 ((w64 (2 * x9)) - 1))) ?_; intro a99 hF100; clear hF98
   refine s1 hF100 30 (.int .i64 (bAnd .i64 x0 (w64 ((w64 (2 * x9)) - 1)))) ?_; intro a101 hF102; clear hF100
   refine s1 hF102 31 (.bool ((bAnd .i64 x0 (w64 ((w64 (2 * x9)) - 1))) == 0)) ?_; intro a103 hF104; clear hF102
   refine s1 hF104 32 (.bool ((bAnd .i64 x0 (w64 ((w64 (2 * x9)) - 1))) == 0)) ?_; intro a105 hF106; clear hF104
   have hF107 := hF106.atom (((bAnd .i64 x0 (w64 ((w64 (2 * x9)) - 1))) == 0) == true) (by kernel_rfl); clear hF106
   refine gp hF107 33 0 [] ((bAnd .i64 x0 (w64 ((w64 (2 * x9)) - 1))) == 0) (.int .i64 x0) rfl rfl ?_; intro a108 hF109; clear hF107
   refine gp hF109 34 0 [] ((bAnd .i64 x0 (w64 ((w64 (2 * x9)) - 1))) == 0) (.int .i64 x9) rfl rfl ?_; intro a110 hF111; clear hF109
   refine gp hF111 35 0 [] ((bAnd .i64 x0 (w64 ((w64 (2 * x9)) - 1))) == 0) (.int .i64 (w64 (2 * x9))) rfl rfl ?_; intro a112 hF113; clear hF111
   refine gp hF113 36 0 [] ((bAnd .i64 x0 (w64 ((w64 (2 * x9)) - 1))) == 0) (.int .i64 (w64 (x0 + (w64 (2 * x9))))) rfl rfl ?_; intro a114 hF115; clear hF113
   refine gp hF115 37 0 [] ((bAnd .i64 x0 (w64 ((w64 (2 * x9)) - 1))) == 0) (.int .i64 (w64 ((w64 (x0 + (w64 (2 * x9)))) - 1))) rfl rfl ?_; intro a116 hF117; clear hF115
   refine gp hF117 38 0 [] ((bAnd .i64 x0 (w64 ((w64 (2 * x9)) - 1))) == 0) (.int .i64 u1) rfl rfl ?_; intro a118 hF119; clear hF117
   refine gp hF119 39 0 [] ((bAnd .i64 x0 (w64 ((w64 (2 * x9)) - 1))) == 0) (.bool (decide ((w64 ((w64 (x0 + (w64 (2 * x9)))) - 1)) ≤ u1))) rfl rfl ?_; intro a120 hF121; clear hF119
   refine st hF121 (.bool (((bAnd .i64 x0 (w64 ((w64 (2 * x9)) - 1))) == 0) && (decide ((w64 ((w64 (x0 + (w64 (2 * x9)))) - 1)) ≤ u1)))) (nog rfl _) rfl (by kernel_rfl) (pk_and hF121 (g := []) (m := 0) (b := (bAnd .i64 x0 (w64 ((w64 (2 * x9)) - 1))) == 0) (v := decide ((w64 ((w64 (x0 + (w64 (2 * x9)))) - 1)) ≤ u1)) rfl (by kernel_rfl) (by kernel_rfl) (by kernel_rfl) rfl) ?_; intro a122 hF123; clear hF121
   refine s1 hF123 41 (.bool (((bAnd .i64 x0 (w64 ((w64 (2 * x9)) - 1))) == 0) && (decide ((w64 ((w64 (x0 + (w64 (2 * x9)))) - 1)) ≤ u1)))) ?_; intro a124 hF125; clear hF123
   have hF126 := hF125.atom ((((bAnd .i64 x0 (w64 ((w64 (2 * x9)) - 1))) == 0) && (decide ((w64 ((w64 (x0 + (w64 (2 * x9)))) - 1)) ≤ u1))) == true) (by kernel_rfl); clear hF125
   refine gp hF126 42 1 [] (((bAnd .i64 x0 (w64 ((w64 (2 * x9)) - 1))) == 0) && (decide ((w64 ((w64 (x0 + (w64 (2 * x9)))) - 1)) ≤ u1))) (.int .i64 x9) rfl rfl ?_; intro a127 hF128; clear hF126
   refine gp hF128 43 1 [] (((bAnd .i64 x0 (w64 ((w64 (2 * x9)) - 1))) == 0) && (decide ((w64 ((w64 (x0 + (w64 (2 * x9)))) - 1)) ≤ u1))) (.int .i64 (w64 (2 * x9))) rfl rfl ?_; intro a129 hF130; clear hF128
   refine gp hF130 44 1 [] (((bAnd .i64 x0 (w64 ((w64 (2 * x9)) - 1))) == 0) && (decide ((w64 ((w64 (x0 + (w64 (2 * x9)))) - 1)) ≤ u1))) (.bool u2) rfl rfl ?_; intro a131 hF132; clear hF130
   refine gcl hF132 hM90 (.int .i64 (ftop u2)) 48 #[.bool u2] (m := 1) (cj := []) (bj := ((bAnd .i64 x0 (w64 ((w64 (2 * x9)) - 1))) == 0) && (decide ((w64 ((w64 (x0 + (w64 (2 * x9)))) - 1)) ≤ u1))) rfl rfl (by kernel_rfl) rfl (by kernel_rfl) (by kernel_rfl) (by kernel_rfl) (fun _ => by kernel_rfl) (fun hg => ftop_fun u2 _ _ hM90.fz) ?_; intro a133 wd135 hF134 hM136; clear hF132 hM90
   refine gp hF134 46 1 [] (((bAnd .i64 x0 (w64 ((w64 (2 * x9)) - 1))) == 0) && (decide ((w64 ((w64 (x0 + (w64 (2 * x9)))) - 1)) ≤ u1))) (.int .i64 (w64 ((ftop u2) + 1))) rfl rfl ?_; intro a137 hF138; clear hF134
   refine gp hF138 47 1 [] (((bAnd .i64 x0 (w64 ((w64 (2 * x9)) - 1))) == 0) && (decide ((w64 ((w64 (x0 + (w64 (2 * x9)))) - 1)) ≤ u1))) (.bool (decide ((w64 (2 * x9)) ≤ (w64 ((ftop u2) + 1))))) rfl rfl ?_; intro a139 hF140; clear hF138
   refine st hF140 (.bool ((((bAnd .i64 x0 (w64 ((w64 (2 * x9)) - 1))) == 0) && (decide ((w64 ((w64 (x0 + (w64 (2 * x9)))) - 1)) ≤ u1))) && (decide ((w64 (2 * x9)) ≤ (w64 ((ftop u2) + 1)))))) (nog rfl _) rfl (by kernel_rfl) (pk_and hF140 (g := []) (m := 1) (b := ((bAnd .i64 x0 (w64 ((w64 (2 * x9)) - 1))) == 0) && (decide ((w64 ((w64 (x0 + (w64 (2 * x9)))) - 1)) ≤ u1))) (v := decide ((w64 (2 * x9)) ≤ (w64 ((ftop u2) + 1)))) rfl (by kernel_rfl) (by kernel_rfl) (by kernel_rfl) rfl) ?_; intro a141 hF142; clear hF140
   refine nlH (hQ92 _ _ ?_); clear hQ92 hQ92Q
   refine cd hF142 (t := (((bAnd .i64 x0 (w64 ((w64 (2 * x9)) - 1))) == 0) && (decide ((w64 ((w64 (x0 + (w64 (2 * x9)))) - 1)) ≤ u1))) && (decide ((w64 (2 * x9)) ≤ (w64 ((ftop u2) + 1))))) (by kernel_rfl) (fun hb143 => ?_) (fun hb143 => ?_)
   · -- yes
    have hp144 := hp91.1 hb143; clear hp91
    refine wp_skip ?_
    refine thn ?_
    refine wp_block ?_
    have hF145 : Fr 66 [] [⟨0, [], .int .i64 x0⟩, ⟨1, [], .int .i64 u1⟩, ⟨2, [], .bool u2⟩, ⟨8, [], .slice aox8 x8.length capx8⟩, ⟨9, [], .int .i64 x9⟩] a141 := hF142.region (by kernel_rfl) (by kernel_rfl); clear hF142
    refine rgH ?_; intro hQ146Q hQ146
    refine s1 hF145 49 (.int .i64 x9) ?_; intro a147 hF148; clear hF145
    refine s1 hF148 50 (.int .i64 (w64 (x9 * 2))) ?_; intro a149 hF150; clear hF148
    refine s1 hF150 9 (.int .i64 (w64 (x9 * 2))) ?_; intro a151 hF152; clear hF150
    refine nlH (hQ146 _ _ ?_); clear hQ146 hQ146Q
    refine ibn ?_
    refine rd ?_
    exact ⟨w64 (x9 * 2), hp144.1, hp144.2, (hF152.region (by kernel_rfl) (by kernel_rfl)).anyβ _ (by kernel_rfl), hM136.keep (List.Sublist.cons_cons _ (List.Sublist.slnil))⟩
   · -- no
    have hp153 := hp91.2 hb143; clear hp91
    refine wp_exit ?_
    refine thx ?_
    refine thx ?_
    refine ibx ?_
    refine thn ?_
    have hF154 : Fr 66 [] [⟨0, [], .int .i64 x0⟩, ⟨1, [], .int .i64 u1⟩, ⟨2, [], .bool u2⟩, ⟨8, [], .slice aox8 x8.length capx8⟩, ⟨9, [], .int .i64 x9⟩] a141 := hF142.region (by kernel_rfl) (by kernel_rfl); clear hF142
    refine sqH ?_; intro hQ155Q hQ155
    refine s1 hF154 51 (.slice aox8 x8.length capx8) ?_; intro a156 hF157; clear hF154
    refine s1 hF157 52 (.int .i64 x0) ?_; intro a158 hF159; clear hF157
    refine s1 hF159 53 (.bool u2) ?_; intro a160 hF161; clear hF159
    refine fcl hF161 hM136 (.int .i64 (ftop u2)) 48 #[.bool u2] (nog rfl _) rfl (by kernel_rfl) (fun _ => by kernel_rfl) (ftop_fun u2 _ _ hM136.fz) ?_; intro a162 wd164 hF163 hM165; clear hF161 hM136
    refine s1 hF163 55 (.int .i64 x9) ?_; intro a166 hF167; clear hF163
    refine s1 hF167 56 (.int .i64 (w64 (x9 - 1))) ?_; intro a168 hF169; clear hF167
    refine s1 hF169 57 (.int .i64 (bAndNot .i64 (ftop u2) (w64 (x9 - 1)))) ?_; intro a170 hF171; clear hF169
    refine s1 hF171 58 (.bool u2) ?_; intro a172 hF173; clear hF171
    refine s1 hF173 59 (.agg #[.int .i64 x0, .int .i64 (bAndNot .i64 (ftop u2) (w64 (x9 - 1))), .bool u2]) ?_; intro a174 hF175; clear hF173
    refine sn hF175 hM165 (fun b => .slice (some ⟨b, 0, none⟩) 1 1) [.int .i64 x0, .int .i64 (bAndNot .i64 (ftop u2) (w64 (x9 - 1))), .bool u2] 28 (nog rfl _) rfl (by kernel_rfl) (by kernel_rfl) ?_; intro b176 a177 wd179 hF178 hM180; clear hF175 hM165
    have hc181 := hp153.1; have hp182 := hp153.2; clear hp153
    refine ap hF178 hM180 1 (T := tyFilter) (xs := x8) (ys := [(⟨x0, bAndNot .i64 (ftop u2) (w64 (x9 - 1)), u2⟩ : Filter)]) (ao := aox8) (cap := capx8) (ao2 := (some ⟨b176, 0, none⟩)) (cap2 := 1) (t := 22) (e := 28) (bytes := 24) (nog rfl _) rfl (by kernel_rfl) rfl (by kernel_rfl) (by kernel_rfl) (by kernel_rfl) rfl (Src.row hM180 0 rfl (RepAll.one (T := tyFilter) (x := (⟨x0, bAndNot .i64 (ftop u2) (w64 (x9 - 1)), u2⟩ : Filter)) rfl)) hc181 ?_; intro ao183 cap184 a188 wd185 hnil186 hF189 hM187; clear hF178 hM180
    have hM190 : Mem w.heap.size [] w Z [.row b176 [.int .i64 x0, .int .i64 (bAndNot .i64 (ftop u2) (w64 (x9 - 1))), .bool u2] 28, .own tyFilter 28 ao183 cap184 (x8 ++ [(⟨x0, bAndNot .i64 (ftop u2) (w64 (x9 - 1)), u2⟩ : Filter)])] Z wd185 := hM187; clear hM187
    refine s1 hF189 8 (.slice ao183 (x8 ++ [(⟨x0, bAndNot .i64 (ftop u2) (w64 (x9 - 1)), u2⟩ : Filter)]).length cap184) ?_; intro a191 hF192; clear hF189
    refine nlH (hQ155 _ _ ?_); clear hQ155 hQ155Q
    refine rgH ?_; intro hQ193Q hQ193
    refine s1 hF192 62 (.int .i64 x0) ?_; intro a194 hF195; clear hF192
    refine s1 hF195 63 (.int .i64 x9) ?_; intro a196 hF197; clear hF195
    refine s1 hF197 64 (.int .i64 (w64 (x0 + x9))) ?_; intro a198 hF199; clear hF197
    refine s1 hF199 0 (.int .i64 (w64 (x0 + x9))) ?_; intro a200 hF201; clear hF199
    refine nlH (hQ193 _ _ ?_); clear hQ193 hQ193Q
    refine ibn ?_
    refine rd ?_
    exact ⟨⟨w64 (x0 + x9), x8 ++ [(⟨x0, bAndNot .i64 (ftop u2) (w64 (x9 - 1)), u2⟩ : Filter)], ao183, cap184⟩, hp182.1, hp182.2, (hF201.region (by kernel_rfl) (by kernel_rfl)).anyβ _ (by kernel_rfl), hM190.keep (List.Sublist.cons _ (List.Sublist.cons_cons _ (List.Sublist.slnil)))⟩
  · -- no
   have hp202 := hp65.2 hb73; clear hp65
   refine wp_exit ?_
   refine thx ?_
   refine thx ?_
   refine ibx ?_
   refine thn ?_
   refine sqH ?_; intro hQ203Q hQ203
   refine s1 hF72 65 (.slice aox8 x8.length capx8) ?_; intro a204 hF205; clear hF72
   refine s1 hF205 6 (.slice aox8 x8.length capx8) ?_; intro a206 hF207; clear hF205
   refine s1 hF207 7 (.int .i64 0) ?_; intro a208 hF209; clear hF207
   refine nlH (hQ203 _ _ ?_); clear hQ203 hQ203Q
   refine wp_ret ?_
   refine rt (fn := Try.f15) (v := .tuple #[.slice aox8 x8.length capx8, .int .i64 0]) hF209 (re2 hF209 (fn := Try.f15) rfl (by kernel_rfl) (by kernel_rfl)) ?_
   exact ⟨(x8, 0), aox8, capx8, Z, rfl, hp202, hM64.keep (List.Sublist.cons_cons _ (List.Sublist.slnil))⟩

set_option maxRecDepth 100000 in
theorem feq_walk (u0 : List Filter) (u1 : List Filter) (ao1 : Option Addr) (cap2 : Nat) (ao4 : Option Addr) (cap5 : Nat) (Z : Fz) (w : World) (hs3 : SlR tyFilter Z ao1 cap2 u0) (hs6 : SlR tyFilter Z ao4 cap5 u1) (hZ : Z.on w) {K : Bool → Prop} (hp : feq_vc u0 u1 K) : Calls Try.prog 17 #[.slice ao1 u0.length cap2, .slice ao4 u1.length cap5] w fun e w' => ∃ r : Bool, e = .returned (.bool r) ∧ K r ∧ Below w.heap.size w w' := by
 refine enter0 Try.func17 rfl rfl (by kernel_rfl) ?_; intro a0 hF0; have hM0 := Mem.start w Z hZ; have hle0 := Fz.le.refl Z
 have hp7 := hp (hs3.small); clear hp
 have hp8 := hp7 (hs6.small); clear hp7
 refine sqH ?_; intro hQ9Q hQ9
 refine s1 hF0 4 (.bool false) ?_; intro a10 hF11; clear hF0
 refine nlH (hQ9 _ _ ?_); clear hQ9 hQ9Q
 refine wp_seq ?_
 refine sqH ?_; intro hQ12Q hQ12
 refine s1 hF11 6 (.slice ao1 u0.length cap2) ?_; intro a13 hF14; clear hF11
 refine s1 hF14 7 (.int .i64 (u0.length : Int)) ?_; intro a15 hF16; clear hF14
 refine s1 hF16 8 (.slice ao4 u1.length cap5) ?_; intro a17 hF18; clear hF16
 refine s1 hF18 9 (.int .i64 (u1.length : Int)) ?_; intro a19 hF20; clear hF18
 refine s1 hF20 10 (.bool ((u0.length : Int) != (u1.length : Int))) ?_; intro a21 hF22; clear hF20
 refine nlH (hQ12 _ _ ?_); clear hQ12 hQ12Q
 refine cd hF22 (t := (u0.length : Int) != (u1.length : Int)) (by kernel_rfl) (fun hb23 => ?_) (fun hb23 => ?_)
 · -- yes
  have hp24 := hp8.1 hb23; clear hp8
  refine sqH ?_; intro hQ25Q hQ25
  refine s1 hF22 4 (.bool false) ?_; intro a26 hF27; clear hF22
  refine nlH (hQ25 _ _ ?_); clear hQ25 hQ25Q
  refine wp_ret ?_
  refine thr ?_
  refine rt (fn := Try.f17) (v := .bool false) hF27 (re1 hF27 (fn := Try.f17) rfl (by kernel_rfl)) ?_
  exact ⟨false, rfl, hp24, hM0.below⟩
 · -- no
  have hp28 := hp8.2 hb23; clear hp8
  refine wp_skip ?_
  refine thn ?_
  refine wp_seq ?_
  refine sqH ?_; intro hQ29Q hQ29
  refine s1 hF22 11 (.slice ao1 u0.length cap2) ?_; intro a30 hF31; clear hF22
  refine s1 hF31 12 (.int .i64 (u0.length : Int)) ?_; intro a32 hF33; clear hF31
  refine s1 hF33 13 (.int .i64 0) ?_; intro a34 hF35; clear hF33
  refine nlH (hQ29 _ _ ?_); clear hQ29 hQ29Q
  refine wp_block ?_
  have hF36 : Fr 26 [] [⟨0, [], .slice ao1 u0.length cap2⟩, ⟨1, [], .slice ao4 u1.length cap5⟩, ⟨12, [], .int .i64 (u0.length : Int)⟩, ⟨13, [], .int .i64 0⟩] a34 := hF35.region (by kernel_rfl) (by kernel_rfl); clear hF35
  have hF38 : Fr 26 [] [⟨0, [], .slice ao1 u0.length cap2⟩, ⟨1, [], .slice ao4 u1.length cap5⟩, ⟨12, [], .int .i64 (u0.length : Int)⟩, ⟨13, [], .int .i64 0⟩] a34 := hF36.region (by kernel_rfl) (by kernel_rfl); clear hF36
  obtain ⟨inv37, mu37, hI41, hr40⟩ := hp28
  refine lp (ι := Int) (fun (s : Int) => [⟨0, [], .slice ao1 u0.length cap2⟩, ⟨1, [], .slice ao4 u1.length cap5⟩, ⟨12, [], .int .i64 (u0.length : Int)⟩, ⟨13, [], .int .i64 s⟩]) (fun (s : Int) => []) (fun (s : Int) => Z) (fun (s : Int) => inv37 s) (fun (s : Int) => mu37 s) 0 hI41 (by exact hF38.region (by kernel_rfl) (by kernel_rfl)) (by exact hM0) ?_
  rintro x13 hI39 a43 wd44 hF45 hM46
  have hF47 : Fr 26 [] [⟨0, [], .slice ao1 u0.length cap2⟩, ⟨1, [], .slice ao4 u1.length cap5⟩, ⟨12, [], .int .i64 (u0.length : Int)⟩, ⟨13, [], .int .i64 x13⟩] a43 := hF45; clear hF45 hF38
  have hM48 : Mem w.heap.size [] w Z [] Z wd44 := hM46; clear hM46 hM0
  have hp49 := hr40 x13 hI39
  refine sqH ?_; intro hQ50Q hQ50
  refine s1 hF47 14 (.bool (decide (x13 < (u0.length : Int)))) ?_; intro a51 hF52; clear hF47
  refine nlH (hQ50 _ _ ?_); clear hQ50 hQ50Q
  refine wp_seq ?_
  refine cd hF52 (t := decide (x13 < (u0.length : Int))) (by kernel_rfl) (fun hb53 => ?_) (fun hb53 => ?_)
  · -- yes
   have hp54 := hp49.1 hb53; clear hp49
   refine wp_skip ?_
   refine thn ?_
   refine wp_seq ?_
   refine wp_block ?_
   refine sqH ?_; intro hQ55Q hQ55
   refine s1 hF52 15 (.int .i64 x13) ?_; intro a56 hF57; clear hF52
   refine s1 hF57 5 (.int .i64 x13) ?_; intro a58 hF59; clear hF57
   refine nlH (hQ55 _ _ ?_); clear hQ55 hQ55Q
   have hF60 : Fr 26 [] [⟨0, [], .slice ao1 u0.length cap2⟩, ⟨1, [], .slice ao4 u1.length cap5⟩, ⟨5, [], .int .i64 x13⟩, ⟨12, [], .int .i64 (u0.length : Int)⟩, ⟨13, [], .int .i64 x13⟩] a58 := hF59.region (by kernel_rfl) (by kernel_rfl); clear hF59
   refine sqQH mixed (by kernel_rfl) hM48 ?_; intro hQ61Q hQ61
   refine q1 hF60 16 (.slice ao1 u0.length cap2) ?_; intro a63 hF64; clear hF60
   refine q1 hF64 17 (.int .i64 x13) ?_; intro a66 hF67; clear hF64
   have hc69 := hp54.1; have hp70 := hp54.2; clear hp54
   refine qix hF67 (T := tyFilter) (xs := u0) hs3 x13 hc69 (k := .i64) (e := 28) (bytes := 24) (nog rfl _) rfl (by kernel_rfl) rfl (by kernel_rfl) (by kernel_rfl) (by kernel_rfl) ?_; intro b71 off72 cs73 q74 a78 hq75 hP76 hT77 hF79; clear hF67
   have hp80 := hp70 q74 hq75; clear hp70
   obtain rfl : cs73 = ([.int .i64 q74.Want, .int .i64 q74.Mask, .bool q74.Long] : List Value) := hT77
   refine qst hF79 (.agg #[.int .i64 q74.Want, .int .i64 q74.Mask, .bool q74.Long]) (nog rfl _) rfl (by kernel_rfl) (fun v81 hC => lza hF79 hC.fz hP76 0 (g := []) (m := 3) (vs := [.int .i64 q74.Want, .int .i64 q74.Mask, .bool q74.Long]) rfl (by kernel_rfl) (by kernel_rfl) (by kernel_rfl) (by kernel_rfl) rfl) ?_; intro a82 hF83; clear hF79
   refine q1 hF83 20 (.slice ao4 u1.length cap5) ?_; intro a85 hF86; clear hF83
   refine q1 hF86 21 (.int .i64 x13) ?_; intro a88 hF89; clear hF86
   have hc91 := hp80.1; have hp92 := hp80.2; clear hp80
   refine qix hF89 (T := tyFilter) (xs := u1) hs6 x13 hc91 (k := .i64) (e := 28) (bytes := 24) (nog rfl _) rfl (by kernel_rfl) rfl (by kernel_rfl) (by kernel_rfl) (by kernel_rfl) ?_; intro b93 off94 cs95 q96 a100 hq97 hP98 hT99 hF101; clear hF89
   have hp102 := hp92 q96 hq97; clear hp92
   obtain rfl : cs95 = ([.int .i64 q96.Want, .int .i64 q96.Mask, .bool q96.Long] : List Value) := hT99
   refine qst hF101 (.agg #[.int .i64 q96.Want, .int .i64 q96.Mask, .bool q96.Long]) (nog rfl _) rfl (by kernel_rfl) (fun v103 hC => lza hF101 hC.fz hP98 0 (g := []) (m := 3) (vs := [.int .i64 q96.Want, .int .i64 q96.Mask, .bool q96.Long]) rfl (by kernel_rfl) (by kernel_rfl) (by kernel_rfl) (by kernel_rfl) rfl) ?_; intro a104 hF105; clear hF101
   refine qst hF105 (.bool (!((q74.Want == q96.Want) && ((q74.Mask == q96.Mask) && ((q74.Long == q96.Long) && true))))) (nog rfl _) rfl (by kernel_rfl) (fun v106 hC => nes_run hF105 (g := []) (xs := #[.int .i64 q74.Want, .int .i64 q74.Mask, .bool q74.Long]) (ys := #[.int .i64 q96.Want, .int .i64 q96.Mask, .bool q96.Long]) (b := (q74.Want == q96.Want) && ((q74.Mask == q96.Mask) && ((q74.Long == q96.Long) && true))) rfl (by kernel_rfl) (by kernel_rfl) (by kernel_rfl) (by kernel_rfl) rfl) ?_; intro a107 hF108; clear hF105
   refine qnl (hQ61 _ ?_); clear hQ61 hQ61Q; intro wd109 hM110; clear hM48
   refine cd hF108 (t := !((q74.Want == q96.Want) && ((q74.Mask == q96.Mask) && ((q74.Long == q96.Long) && true)))) (by kernel_rfl) (fun hb111 => ?_) (fun hb111 => ?_)
   · -- yes
    have hp112 := hp102.1 hb111; clear hp102
    refine sqH ?_; intro hQ113Q hQ113
    refine s1 hF108 4 (.bool false) ?_; intro a114 hF115; clear hF108
    refine nlH (hQ113 _ _ ?_); clear hQ113 hQ113Q
    refine wp_ret ?_
    refine ibr ?_
    refine thr ?_
    refine thr ?_
    refine ibr ?_
    refine thr ?_
    refine rt (fn := Try.f17) (v := .bool false) hF115 (re1 hF115 (fn := Try.f17) rfl (by kernel_rfl)) ?_
    exact ⟨false, rfl, hp112, hM110.below⟩
   · -- no
    have hp116 := hp102.2 hb111; clear hp102
    refine wp_skip ?_
    refine ibn ?_
    refine thn ?_
    refine rgH ?_; intro hQ117Q hQ117
    refine s1 hF108 25 (.int .i64 (w64 (x13 + 1))) ?_; intro a118 hF119; clear hF108
    refine s1 hF119 13 (.int .i64 (w64 (x13 + 1))) ?_; intro a120 hF121; clear hF119
    refine nlH (hQ117 _ _ ?_); clear hQ117 hQ117Q
    refine rd ?_
    exact ⟨w64 (x13 + 1), hp116.1, hp116.2, (hF121.region (by kernel_rfl) (by kernel_rfl)).anyβ _ (by kernel_rfl), hM110.keep (List.Sublist.slnil)⟩
  · -- no
   have hp122 := hp49.2 hb53; clear hp49
   refine wp_exit ?_
   refine thx ?_
   refine thx ?_
   refine ibx ?_
   refine thn ?_
   refine sqH ?_; intro hQ123Q hQ123
   refine s1 hF52 4 (.bool true) ?_; intro a124 hF125; clear hF52
   refine nlH (hQ123 _ _ ?_); clear hQ123 hQ123Q
   refine wp_ret ?_
   refine rt (fn := Try.f17) (v := .bool true) hF125 (re1 hF125 (fn := Try.f17) rfl (by kernel_rfl)) ?_
   exact ⟨true, rfl, hp122, hM48.below⟩

set_option maxRecDepth 100000 in
theorem fcheck_walk (u0 : List Filter) (ao1 : Option Addr) (cap2 : Nat) (Z : Fz) (w : World) (hs3 : SlR tyFilter Z ao1 cap2 u0) (hZ : Z.on w) {K : Int → Prop} (hp : fcheck_vc u0 K) : Calls Try.prog 26 #[.slice ao1 u0.length cap2] w fun e w' => ∃ r : Int, e = .returned (.int .i64 r) ∧ K r ∧ Below w.heap.size w w' := by
 refine enter0 Try.func26 rfl rfl (by kernel_rfl) ?_; intro a0 hF0; have hM0 := Mem.start w Z hZ; have hle0 := Fz.le.refl Z
 have hp4 := hp (hs3.small); clear hp
 refine sqH ?_; intro hQ5Q hQ5
 refine s1 hF0 2 (.int .i64 0) ?_; intro a6 hF7; clear hF0
 refine nlH (hQ5 _ _ ?_); clear hQ5 hQ5Q
 refine wp_seq ?_
 refine sqH ?_; intro hQ8Q hQ8
 refine s1 hF7 5 (.slice ao1 u0.length cap2) ?_; intro a9 hF10; clear hF7
 refine s1 hF10 6 (.int .i64 (u0.length : Int)) ?_; intro a11 hF12; clear hF10
 refine s1 hF12 7 (.bool (decide ((u0.length : Int) > 16))) ?_; intro a13 hF14; clear hF12
 refine nlH (hQ8 _ _ ?_); clear hQ8 hQ8Q
 refine cd hF14 (t := decide ((u0.length : Int) > 16)) (by kernel_rfl) (fun hb15 => ?_) (fun hb15 => ?_)
 · -- yes
  have hp16 := hp4.1 hb15; clear hp4
  refine sqH ?_; intro hQ17Q hQ17
  refine s1 hF14 2 (.int .i64 2) ?_; intro a18 hF19; clear hF14
  refine nlH (hQ17 _ _ ?_); clear hQ17 hQ17Q
  refine wp_ret ?_
  refine thr ?_
  refine rt (fn := Try.f26) (v := .int .i64 2) hF19 (re1 hF19 (fn := Try.f26) rfl (by kernel_rfl)) ?_
  exact ⟨2, rfl, hp16, hM0.below⟩
 · -- no
  have hp20 := hp4.2 hb15; clear hp4
  refine wp_skip ?_
  refine thn ?_
  refine wp_seq ?_
  refine sqH ?_; intro hQ21Q hQ21
  refine s1 hF14 8 (.slice ao1 u0.length cap2) ?_; intro a22 hF23; clear hF14
  refine s1 hF23 9 (.int .i64 (u0.length : Int)) ?_; intro a24 hF25; clear hF23
  refine s1 hF25 10 (.int .i64 0) ?_; intro a26 hF27; clear hF25
  refine nlH (hQ21 _ _ ?_); clear hQ21 hQ21Q
  refine wp_block ?_
  have hF28 : Fr 39 [] [⟨8, [], .slice ao1 u0.length cap2⟩, ⟨9, [], .int .i64 (u0.length : Int)⟩, ⟨10, [], .int .i64 0⟩] a26 := hF27.region (by kernel_rfl) (by kernel_rfl); clear hF27
  have hF30 : Fr 39 [] [⟨8, [], .slice ao1 u0.length cap2⟩, ⟨9, [], .int .i64 (u0.length : Int)⟩, ⟨10, [], .int .i64 0⟩] a26 := hF28.region (by kernel_rfl) (by kernel_rfl); clear hF28
  obtain ⟨inv29, mu29, hI33, hr32⟩ := hp20
  refine lp (ι := Int) (fun (s : Int) => [⟨8, [], .slice ao1 u0.length cap2⟩, ⟨9, [], .int .i64 (u0.length : Int)⟩, ⟨10, [], .int .i64 s⟩]) (fun (s : Int) => []) (fun (s : Int) => Z) (fun (s : Int) => inv29 s) (fun (s : Int) => mu29 s) 0 hI33 (by exact hF30.region (by kernel_rfl) (by kernel_rfl)) (by exact hM0) ?_
  rintro x10 hI31 a35 wd36 hF37 hM38
  have hF39 : Fr 39 [] [⟨8, [], .slice ao1 u0.length cap2⟩, ⟨9, [], .int .i64 (u0.length : Int)⟩, ⟨10, [], .int .i64 x10⟩] a35 := hF37; clear hF37 hF30
  have hM40 : Mem w.heap.size [] w Z [] Z wd36 := hM38; clear hM38 hM0
  have hp41 := hr32 x10 hI31
  refine sqH ?_; intro hQ42Q hQ42
  refine s1 hF39 11 (.bool (decide (x10 < (u0.length : Int)))) ?_; intro a43 hF44; clear hF39
  refine nlH (hQ42 _ _ ?_); clear hQ42 hQ42Q
  refine wp_seq ?_
  refine cd hF44 (t := decide (x10 < (u0.length : Int))) (by kernel_rfl) (fun hb45 => ?_) (fun hb45 => ?_)
  · -- yes
   have hp46 := hp41.1 hb45; clear hp41
   refine wp_skip ?_
   refine thn ?_
   refine wp_seq ?_
   refine wp_block ?_
   refine sqH ?_; intro hQ47Q hQ47
   have hc48 := hp46.1; have hp49 := hp46.2; clear hp46
   refine ix hF44 (T := tyFilter) (xs := u0) hs3 x10 hc48 (k := .i64) (e := 28) (bytes := 24) (nog rfl _) rfl (by kernel_rfl) rfl (by kernel_rfl) (by kernel_rfl) (by kernel_rfl) ?_; intro b50 off51 cs52 q53 a57 hq54 hP55 hT56 hF58; clear hF44
   have hp59 := hp49 q53 hq54; clear hp49
   obtain rfl : cs52 = ([.int .i64 q53.Want, .int .i64 q53.Mask, .bool q53.Long] : List Value) := hT56
   refine z2 hF58 hM40 13 hP55 0 3 [.int .i64 q53.Want, .int .i64 q53.Mask, .bool q53.Long] rfl ?_; intro a60 hF61; clear hF58
   refine sn hF61 hM40 (fun b => .pointer (some ⟨b, 0, none⟩)) [.int .i64 0, .int .i64 0, .bool false] 28 (nog rfl _) rfl (by kernel_rfl) (by kernel_rfl) ?_; intro b62 a63 wd65 hF64 hM66; clear hF61 hM40
   refine sr hF64 hM66 0 [.int .i64 q53.Want, .int .i64 q53.Mask, .bool q53.Long] (b := b62) (off := 0) (cs := [.int .i64 0, .int .i64 0, .bool false]) (ty := 28) (u := .agg #[.int .i64 q53.Want, .int .i64 q53.Mask, .bool q53.Long]) (nog rfl _) rfl rfl (by kernel_rfl) (by kernel_rfl) (by kernel_rfl) (by kernel_rfl) (by kernel_rfl) (by kernel_rfl) (by kernel_rfl) ?_; intro wd67 hM68; clear hM66
   have hM69 : Mem w.heap.size [] w Z [.row b62 [.int .i64 q53.Want, .int .i64 q53.Mask, .bool q53.Long] 28] Z wd67 := hM68; clear hM68
   refine nlH (hQ47 _ _ ?_); clear hQ47 hQ47Q
   have hF70 : Fr 39 [] [⟨4, [], .pointer (some ⟨b62, 0, none⟩)⟩, ⟨8, [], .slice ao1 u0.length cap2⟩, ⟨9, [], .int .i64 (u0.length : Int)⟩, ⟨10, [], .int .i64 x10⟩] a63 := hF64.region (by kernel_rfl) (by kernel_rfl); clear hF64
   refine sqQH mixed (by kernel_rfl) hM69 ?_; intro hQ71Q hQ71
   refine q1 hF70 14 (.pointer (some ⟨b62, 0, none⟩)) ?_; intro a73 hF74; clear hF70
   refine qst hF74 (.int .i64 q53.Want) (nog rfl _) rfl (by kernel_rfl) (fun v75 hC => ld hF74 hC 0 (g := []) (b := b62) (off := 0) (cs := [.int .i64 q53.Want, .int .i64 q53.Mask, .bool q53.Long]) (ty := 28) rfl (by kernel_rfl) (by kernel_rfl) (by kernel_rfl) (by kernel_rfl) rfl) ?_; intro a76 hF77; clear hF74
   refine q1 hF77 16 (.bool (decide (q53.Want < 0))) ?_; intro a79 hF80; clear hF77
   refine q1 hF80 17 (.bool (decide (q53.Want < 0))) ?_; intro a82 hF83; clear hF80
   have hF84 := hF83.atom ((decide (q53.Want < 0)) == false) (by kernel_rfl); clear hF83
   refine qgd hF84 (.pointer (some ⟨b62, 0, none⟩)) (m := 0) (cj := []) (bj := decide (q53.Want < 0)) rfl rfl (by kernel_rfl) rfl (by kernel_rfl) (by kernel_rfl) (by kernel_rfl) (fun hg => qat_ok (fun v85 hC => pu hF84 (g := [0]) (by kernel_rfl) hg)) ?_; intro a86 hF87; clear hF84
   refine qgd hF87 (.int .i64 q53.Want) (m := 0) (cj := []) (bj := decide (q53.Want < 0)) rfl rfl (by kernel_rfl) rfl (by kernel_rfl) (by kernel_rfl) (by kernel_rfl) (fun hg => qat_ok (fun v88 hC => ld hF87 hC 0 (g := [0]) (b := b62) (off := 0) (cs := [.int .i64 q53.Want, .int .i64 q53.Mask, .bool q53.Long]) (ty := 28) rfl (by kernel_rfl) (by kernel_rfl) (by kernel_rfl) (by kernel_rfl) hg)) ?_; intro a89 hF90; clear hF87
   refine qgd hF90 (.pointer (some ⟨b62, 2, none⟩)) (m := 0) (cj := []) (bj := decide (q53.Want < 0)) rfl rfl (by kernel_rfl) rfl (by kernel_rfl) (by kernel_rfl) (by kernel_rfl) (fun hg => qat_ok (fun v91 hC => pu hF90 (g := [0]) (by kernel_rfl) hg)) ?_; intro a92 hF93; clear hF90
   refine qgd hF93 (.bool q53.Long) (m := 0) (cj := []) (bj := decide (q53.Want < 0)) rfl rfl (by kernel_rfl) rfl (by kernel_rfl) (by kernel_rfl) (by kernel_rfl) (fun hg => qat_ok (fun v94 hC => ld hF93 hC 0 (g := [0]) (b := b62) (off := 2) (cs := [.int .i64 q53.Want, .int .i64 q53.Mask, .bool q53.Long]) (ty := 28) rfl (by kernel_rfl) (by kernel_rfl) (by kernel_rfl) (by kernel_rfl) hg)) ?_; intro a95 hF96; clear hF93
   refine qgd hF96 (.int .i64 (ftop q53.Long)) (m := 0) (cj := []) (bj := decide (q53.Want < 0)) rfl rfl (by kernel_rfl) rfl (by kernel_rfl) (by kernel_rfl) (by kernel_rfl) (fun hg => qat_cl hF96 (g := [0]) 48 #[.bool q53.Long] hg (fun _ => by kernel_rfl) (qfc fun w hC => ftop_fun q53.Long _ _ hC.fz)) ?_; intro a98 hF99; clear hF96
   refine qgd hF99 (.bool (decide (q53.Want > (ftop q53.Long)))) (m := 0) (cj := []) (bj := decide (q53.Want < 0)) rfl rfl (by kernel_rfl) rfl (by kernel_rfl) (by kernel_rfl) (by kernel_rfl) (fun hg => qat_ok (fun v100 hC => pu hF99 (g := [0]) (by kernel_rfl) hg)) ?_; intro a101 hF102; clear hF99
   refine qst hF102 (.bool ((decide (q53.Want < 0)) || (decide (q53.Want > (ftop q53.Long))))) (nog rfl _) rfl (by kernel_rfl) (fun v103 hC => pk_or hF102 (g := []) (m := 0) (b := decide (q53.Want < 0)) (v := decide (q53.Want > (ftop q53.Long))) rfl (by kernel_rfl) (by kernel_rfl) (by kernel_rfl) rfl) ?_; intro a104 hF105; clear hF102
   refine q1 hF105 25 (.bool ((decide (q53.Want < 0)) || (decide (q53.Want > (ftop q53.Long))))) ?_; intro a107 hF108; clear hF105
   have hF109 := hF108.atom (((decide (q53.Want < 0)) || (decide (q53.Want > (ftop q53.Long)))) == false) (by kernel_rfl); clear hF108
   refine qgd hF109 (.pointer (some ⟨b62, 1, none⟩)) (m := 1) (cj := []) (bj := (decide (q53.Want < 0)) || (decide (q53.Want > (ftop q53.Long)))) rfl rfl (by kernel_rfl) rfl (by kernel_rfl) (by kernel_rfl) (by kernel_rfl) (fun hg => qat_ok (fun v110 hC => pu hF109 (g := [1]) (by kernel_rfl) hg)) ?_; intro a111 hF112; clear hF109
   refine qgd hF112 (.int .i64 q53.Mask) (m := 1) (cj := []) (bj := (decide (q53.Want < 0)) || (decide (q53.Want > (ftop q53.Long)))) rfl rfl (by kernel_rfl) rfl (by kernel_rfl) (by kernel_rfl) (by kernel_rfl) (fun hg => qat_ok (fun v113 hC => ld hF112 hC 0 (g := [1]) (b := b62) (off := 1) (cs := [.int .i64 q53.Want, .int .i64 q53.Mask, .bool q53.Long]) (ty := 28) rfl (by kernel_rfl) (by kernel_rfl) (by kernel_rfl) (by kernel_rfl) hg)) ?_; intro a114 hF115; clear hF112
   refine qgd hF115 (.bool (decide (q53.Mask < 0))) (m := 1) (cj := []) (bj := (decide (q53.Want < 0)) || (decide (q53.Want > (ftop q53.Long)))) rfl rfl (by kernel_rfl) rfl (by kernel_rfl) (by kernel_rfl) (by kernel_rfl) (fun hg => qat_ok (fun v116 hC => pu hF115 (g := [1]) (by kernel_rfl) hg)) ?_; intro a117 hF118; clear hF115
   refine qst hF118 (.bool (((decide (q53.Want < 0)) || (decide (q53.Want > (ftop q53.Long)))) || (decide (q53.Mask < 0)))) (nog rfl _) rfl (by kernel_rfl) (fun v119 hC => pk_or hF118 (g := []) (m := 1) (b := (decide (q53.Want < 0)) || (decide (q53.Want > (ftop q53.Long)))) (v := decide (q53.Mask < 0)) rfl (by kernel_rfl) (by kernel_rfl) (by kernel_rfl) rfl) ?_; intro a120 hF121; clear hF118
   refine q1 hF121 30 (.bool (((decide (q53.Want < 0)) || (decide (q53.Want > (ftop q53.Long)))) || (decide (q53.Mask < 0)))) ?_; intro a123 hF124; clear hF121
   have hF125 := hF124.atom ((((decide (q53.Want < 0)) || (decide (q53.Want > (ftop q53.Long)))) || (decide (q53.Mask < 0))) == false) (by kernel_rfl); clear hF124
   refine qgd hF125 (.pointer (some ⟨b62, 1, none⟩)) (m := 2) (cj := []) (bj := ((decide (q53.Want < 0)) || (decide (q53.Want > (ftop q53.Long)))) || (decide (q53.Mask < 0))) rfl rfl (by kernel_rfl) rfl (by kernel_rfl) (by kernel_rfl) (by kernel_rfl) (fun hg => qat_ok (fun v126 hC => pu hF125 (g := [2]) (by kernel_rfl) hg)) ?_; intro a127 hF128; clear hF125
   refine qgd hF128 (.int .i64 q53.Mask) (m := 2) (cj := []) (bj := ((decide (q53.Want < 0)) || (decide (q53.Want > (ftop q53.Long)))) || (decide (q53.Mask < 0))) rfl rfl (by kernel_rfl) rfl (by kernel_rfl) (by kernel_rfl) (by kernel_rfl) (fun hg => qat_ok (fun v129 hC => ld hF128 hC 0 (g := [2]) (b := b62) (off := 1) (cs := [.int .i64 q53.Want, .int .i64 q53.Mask, .bool q53.Long]) (ty := 28) rfl (by kernel_rfl) (by kernel_rfl) (by kernel_rfl) (by kernel_rfl) hg)) ?_; intro a130 hF131; clear hF128
   refine qgd hF131 (.pointer (some ⟨b62, 2, none⟩)) (m := 2) (cj := []) (bj := ((decide (q53.Want < 0)) || (decide (q53.Want > (ftop q53.Long)))) || (decide (q53.Mask < 0))) rfl rfl (by kernel_rfl) rfl (by kernel_rfl) (by kernel_rfl) (by kernel_rfl) (fun hg => qat_ok (fun v132 hC => pu hF131 (g := [2]) (by kernel_rfl) hg)) ?_; intro a133 hF134; clear hF131
   refine qgd hF134 (.bool q53.Long) (m := 2) (cj := []) (bj := ((decide (q53.Want < 0)) || (decide (q53.Want > (ftop q53.Long)))) || (decide (q53.Mask < 0))) rfl rfl (by kernel_rfl) rfl (by kernel_rfl) (by kernel_rfl) (by kernel_rfl) (fun hg => qat_ok (fun v135 hC => ld hF134 hC 0 (g := [2]) (b := b62) (off := 2) (cs := [.int .i64 q53.Want, .int .i64 q53.Mask, .bool q53.Long]) (ty := 28) rfl (by kernel_rfl) (by kernel_rfl) (by kernel_rfl) (by kernel_rfl) hg)) ?_; intro a136 hF137; clear hF134
   refine qgd hF137 (.int .i64 (ftop q53.Long)) (m := 2) (cj := []) (bj := ((decide (q53.Want < 0)) || (decide (q53.Want > (ftop q53.Long)))) || (decide (q53.Mask < 0))) rfl rfl (by kernel_rfl) rfl (by kernel_rfl) (by kernel_rfl) (by kernel_rfl) (fun hg => qat_cl hF137 (g := [2]) 48 #[.bool q53.Long] hg (fun _ => by kernel_rfl) (qfc fun w hC => ftop_fun q53.Long _ _ hC.fz)) ?_; intro a139 hF140; clear hF137
   refine qgd hF140 (.bool (decide (q53.Mask > (ftop q53.Long)))) (m := 2) (cj := []) (bj := ((decide (q53.Want < 0)) || (decide (q53.Want > (ftop q53.Long)))) || (decide (q53.Mask < 0))) rfl rfl (by kernel_rfl) rfl (by kernel_rfl) (by kernel_rfl) (by kernel_rfl) (fun hg => qat_ok (fun v141 hC => pu hF140 (g := [2]) (by kernel_rfl) hg)) ?_; intro a142 hF143; clear hF140
   refine qst hF143 (.bool ((((decide (q53.Want < 0)) || (decide (q53.Want > (ftop q53.Long)))) || (decide (q53.Mask < 0))) || (decide (q53.Mask > (ftop q53.Long))))) (nog rfl _) rfl (by kernel_rfl) (fun v144 hC => pk_or hF143 (g := []) (m := 2) (b := ((decide (q53.Want < 0)) || (decide (q53.Want > (ftop q53.Long)))) || (decide (q53.Mask < 0))) (v := decide (q53.Mask > (ftop q53.Long))) rfl (by kernel_rfl) (by kernel_rfl) (by kernel_rfl) rfl) ?_; intro a145 hF146; clear hF143
   refine qnl (hQ71 _ ?_); clear hQ71 hQ71Q; intro wd147 hM148; clear hM69
   refine cd hF146 (t := (((decide (q53.Want < 0)) || (decide (q53.Want > (ftop q53.Long)))) || (decide (q53.Mask < 0))) || (decide (q53.Mask > (ftop q53.Long)))) (by kernel_rfl) (fun hb149 => ?_) (fun hb149 => ?_)
   · -- yes
    have hp150 := hp59.1 hb149; clear hp59
    have hF151 : Fr 39 [] [] a145 := hF146.region (by kernel_rfl) (by kernel_rfl); clear hF146
    refine sqH ?_; intro hQ152Q hQ152
    refine s1 hF151 2 (.int .i64 3) ?_; intro a153 hF154; clear hF151
    refine nlH (hQ152 _ _ ?_); clear hQ152 hQ152Q
    refine wp_ret ?_
    refine ibr ?_
    refine thr ?_
    refine thr ?_
    refine ibr ?_
    refine thr ?_
    refine rt (fn := Try.f26) (v := .int .i64 3) hF154 (re1 hF154 (fn := Try.f26) rfl (by kernel_rfl)) ?_
    exact ⟨3, rfl, hp150, hM148.below⟩
   · -- no
    have hp155 := hp59.2 hb149; clear hp59
    refine wp_skip ?_
    refine ibn ?_
    refine thn ?_
    have hF156 : Fr 39 [] [⟨8, [], .slice ao1 u0.length cap2⟩, ⟨9, [], .int .i64 (u0.length : Int)⟩, ⟨10, [], .int .i64 x10⟩] a145 := hF146.region (by kernel_rfl) (by kernel_rfl); clear hF146
    refine rgH ?_; intro hQ157Q hQ157
    refine s1 hF156 38 (.int .i64 (w64 (x10 + 1))) ?_; intro a158 hF159; clear hF156
    refine s1 hF159 10 (.int .i64 (w64 (x10 + 1))) ?_; intro a160 hF161; clear hF159
    refine nlH (hQ157 _ _ ?_); clear hQ157 hQ157Q
    refine rd ?_
    exact ⟨w64 (x10 + 1), hp155.1, hp155.2, (hF161.region (by kernel_rfl) (by kernel_rfl)).anyβ _ (by kernel_rfl), hM148.keep (List.Sublist.cons _ (List.Sublist.slnil))⟩
  · -- no
   have hp162 := hp41.2 hb45; clear hp41
   refine wp_exit ?_
   refine thx ?_
   refine thx ?_
   refine ibx ?_
   refine thn ?_
   refine sqH ?_; intro hQ163Q hQ163
   refine s1 hF44 2 (.int .i64 0) ?_; intro a164 hF165; clear hF44
   refine nlH (hQ163 _ _ ?_); clear hQ163 hQ163Q
   refine wp_ret ?_
   refine rt (fn := Try.f26) (v := .int .i64 0) hF165 (re1 hF165 (fn := Try.f26) rfl (by kernel_rfl)) ?_
   exact ⟨0, rfl, hp162, hM40.below⟩

set_option maxRecDepth 100000 in
theorem ffree_walk (u0 : Int)  (Z : Fz) (w : World)  (hZ : Z.on w) {K : Int → Prop} (hp : ffree_vc u0 K) : Calls Try.prog 63 #[.int .i64 u0] w fun e w' => ∃ r : Int, e = .returned (.int .i64 r) ∧ K r ∧ Below w.heap.size w w' := by
 refine enter0 Try.func63 rfl rfl (by kernel_rfl) ?_; intro a0 hF0; have hM0 := Mem.start w Z hZ; have hle0 := Fz.le.refl Z
 refine sqH ?_; intro hQ1Q hQ1
 refine s1 hF0 2 (.int .i64 0) ?_; intro a2 hF3; clear hF0
 refine nlH (hQ1 _ _ ?_); clear hQ1 hQ1Q
 refine sqH ?_; intro hQ4Q hQ4
 refine s1 hF3 3 (.int .i64 1) ?_; intro a5 hF6; clear hF3
 refine nlH (hQ4 _ _ ?_); clear hQ4 hQ4Q
 refine wp_seq ?_
 refine wp_block ?_
 have hF7 : Fr 13 [] [⟨0, [], .int .i64 u0⟩, ⟨3, [], .int .i64 1⟩] a5 := hF6.region (by kernel_rfl) (by kernel_rfl); clear hF6
 have hF9 : Fr 13 [] [⟨0, [], .int .i64 u0⟩, ⟨3, [], .int .i64 1⟩] a5 := hF7.region (by kernel_rfl) (by kernel_rfl); clear hF7
 obtain ⟨inv8, mu8, hI12, hr11⟩ := hp
 refine lp (ι := Int × Int) (fun (s : Int × Int) => [⟨0, [], .int .i64 s.1⟩, ⟨3, [], .int .i64 s.2⟩]) (fun (s : Int × Int) => []) (fun (s : Int × Int) => Z) (fun (s : Int × Int) => inv8 s.1 s.2) (fun (s : Int × Int) => mu8 s.1 s.2) ⟨u0, 1⟩ hI12 (by exact hF9.region (by kernel_rfl) (by kernel_rfl)) (by exact hM0) ?_
 rintro ⟨x0, x3⟩ hI10 a14 wd15 hF16 hM17
 have hF18 : Fr 13 [] [⟨0, [], .int .i64 x0⟩, ⟨3, [], .int .i64 x3⟩] a14 := hF16; clear hF16 hF9
 have hM19 : Mem w.heap.size [] w Z [] Z wd15 := hM17; clear hM17 hM0
 have hp20 := hr11 x0 x3 hI10
 refine wp_seq ?_
 refine sqH ?_; intro hQ21Q hQ21
 refine s1 hF18 4 (.int .i64 x0) ?_; intro a22 hF23; clear hF18
 refine s1 hF23 5 (.bool (x0 != 0)) ?_; intro a24 hF25; clear hF23
 refine nlH (hQ21 _ _ ?_); clear hQ21 hQ21Q
 refine cd hF25 (t := x0 != 0) (by kernel_rfl) (fun hb26 => ?_) (fun hb26 => ?_)
 · -- yes
  have hp27 := hp20.1 hb26; clear hp20
  refine wp_skip ?_
  refine thn ?_
  refine wp_seq ?_
  refine wp_block ?_
  refine rgH ?_; intro hQ28Q hQ28
  refine s1 hF25 10 (.int .i64 x3) ?_; intro a29 hF30; clear hF25
  refine s1 hF30 11 (.int .i64 (w64 (x3 * 2))) ?_; intro a31 hF32; clear hF30
  refine s1 hF32 3 (.int .i64 (w64 (x3 * 2))) ?_; intro a33 hF34; clear hF32
  refine nlH (hQ28 _ _ ?_); clear hQ28 hQ28Q
  refine ibn ?_
  refine thn ?_
  refine rgH ?_; intro hQ35Q hQ35
  refine s1 hF34 6 (.int .i64 x0) ?_; intro a36 hF37; clear hF34
  refine s1 hF37 7 (.int .i64 x0) ?_; intro a38 hF39; clear hF37
  refine s1 hF39 8 (.int .i64 (w64 (x0 - 1))) ?_; intro a40 hF41; clear hF39
  refine s1 hF41 9 (.int .i64 (bAnd .i64 x0 (w64 (x0 - 1)))) ?_; intro a42 hF43; clear hF41
  refine s1 hF43 0 (.int .i64 (bAnd .i64 x0 (w64 (x0 - 1)))) ?_; intro a44 hF45; clear hF43
  refine nlH (hQ35 _ _ ?_); clear hQ35 hQ35Q
  refine rd ?_
  exact ⟨⟨bAnd .i64 x0 (w64 (x0 - 1)), w64 (x3 * 2)⟩, hp27.1, hp27.2, (hF45.region (by kernel_rfl) (by kernel_rfl)).anyβ _ (by kernel_rfl), hM19.keep (List.Sublist.slnil)⟩
 · -- no
  have hp46 := hp20.2 hb26; clear hp20
  refine wp_exit ?_
  refine thx ?_
  refine thx ?_
  refine ibx ?_
  refine thn ?_
  refine sqH ?_; intro hQ47Q hQ47
  refine s1 hF25 12 (.int .i64 x3) ?_; intro a48 hF49; clear hF25
  refine s1 hF49 2 (.int .i64 x3) ?_; intro a50 hF51; clear hF49
  refine nlH (hQ47 _ _ ?_); clear hQ47 hQ47Q
  refine wp_ret ?_
  refine rt (fn := Try.f63) (v := .int .i64 x3) hF51 (re1 hF51 (fn := Try.f63) rfl (by kernel_rfl)) ?_
  exact ⟨x3, rfl, hp46, hM19.below⟩

set_option maxRecDepth 100000 in
theorem rcheckf_walk (u0 : List Filter) (ao1 : Option Addr) (cap2 : Nat) (Z : Fz) (w : World) (hs3 : SlR tyFilter Z ao1 cap2 u0) (hZ : Z.on w) {K : Int → Prop} (hp : rcheckf_vc u0 K) : Calls Try.prog 19 #[.slice ao1 u0.length cap2] w fun e w' => ∃ r : Int, e = .returned (.int .i64 r) ∧ K r ∧ Below w.heap.size w w' := by
 refine enter0 Try.func19 rfl rfl (by kernel_rfl) ?_; intro a0 hF0; have hM0 := Mem.start w Z hZ; have hle0 := Fz.le.refl Z
 have hp4 := hp (hs3.small); clear hp
 refine sqH ?_; intro hQ5Q hQ5
 refine s1 hF0 2 (.int .i64 0) ?_; intro a6 hF7; clear hF0
 refine nlH (hQ5 _ _ ?_); clear hQ5 hQ5Q
 refine wp_seq ?_
 refine sqH ?_; intro hQ8Q hQ8
 refine s1 hF7 6 (.slice ao1 u0.length cap2) ?_; intro a9 hF10; clear hF7
 refine s1 hF10 7 (.int .i64 (u0.length : Int)) ?_; intro a11 hF12; clear hF10
 refine s1 hF12 8 (.bool (decide ((u0.length : Int) > 16))) ?_; intro a13 hF14; clear hF12
 refine nlH (hQ8 _ _ ?_); clear hQ8 hQ8Q
 refine cd hF14 (t := decide ((u0.length : Int) > 16)) (by kernel_rfl) (fun hb15 => ?_) (fun hb15 => ?_)
 · -- yes
  have hp16 := hp4.1 hb15; clear hp4
  refine sqH ?_; intro hQ17Q hQ17
  refine s1 hF14 2 (.int .i64 2) ?_; intro a18 hF19; clear hF14
  refine nlH (hQ17 _ _ ?_); clear hQ17 hQ17Q
  refine wp_ret ?_
  refine thr ?_
  refine rt (fn := Try.f19) (v := .int .i64 2) hF19 (re1 hF19 (fn := Try.f19) rfl (by kernel_rfl)) ?_
  exact ⟨2, rfl, hp16, hM0.below⟩
 · -- no
  have hp20 := hp4.2 hb15; clear hp4
  refine wp_skip ?_
  refine thn ?_
  refine wp_seq ?_
  refine sqH ?_; intro hQ21Q hQ21
  refine s1 hF14 9 (.slice ao1 u0.length cap2) ?_; intro a22 hF23; clear hF14
  refine s1 hF23 10 (.int .i64 (u0.length : Int)) ?_; intro a24 hF25; clear hF23
  refine s1 hF25 11 (.int .i64 0) ?_; intro a26 hF27; clear hF25
  refine nlH (hQ21 _ _ ?_); clear hQ21 hQ21Q
  refine wp_block ?_
  have hF28 : Fr 33 [] [⟨9, [], .slice ao1 u0.length cap2⟩, ⟨10, [], .int .i64 (u0.length : Int)⟩, ⟨11, [], .int .i64 0⟩] a26 := hF27.region (by kernel_rfl) (by kernel_rfl); clear hF27
  have hF30 : Fr 33 [] [⟨9, [], .slice ao1 u0.length cap2⟩, ⟨10, [], .int .i64 (u0.length : Int)⟩, ⟨11, [], .int .i64 0⟩] a26 := hF28.region (by kernel_rfl) (by kernel_rfl); clear hF28
  obtain ⟨inv29, mu29, hI33, hr32⟩ := hp20
  refine lp (ι := Int) (fun (s : Int) => [⟨9, [], .slice ao1 u0.length cap2⟩, ⟨10, [], .int .i64 (u0.length : Int)⟩, ⟨11, [], .int .i64 s⟩]) (fun (s : Int) => []) (fun (s : Int) => Z) (fun (s : Int) => inv29 s) (fun (s : Int) => mu29 s) 0 hI33 (by exact hF30.region (by kernel_rfl) (by kernel_rfl)) (by exact hM0) ?_
  rintro x11 hI31 a35 wd36 hF37 hM38
  have hF39 : Fr 33 [] [⟨9, [], .slice ao1 u0.length cap2⟩, ⟨10, [], .int .i64 (u0.length : Int)⟩, ⟨11, [], .int .i64 x11⟩] a35 := hF37; clear hF37 hF30
  have hM40 : Mem w.heap.size [] w Z [] Z wd36 := hM38; clear hM38 hM0
  have hp41 := hr32 x11 hI31
  refine sqH ?_; intro hQ42Q hQ42
  refine s1 hF39 12 (.bool (decide (x11 < (u0.length : Int)))) ?_; intro a43 hF44; clear hF39
  refine nlH (hQ42 _ _ ?_); clear hQ42 hQ42Q
  refine wp_seq ?_
  refine cd hF44 (t := decide (x11 < (u0.length : Int))) (by kernel_rfl) (fun hb45 => ?_) (fun hb45 => ?_)
  · -- yes
   have hp46 := hp41.1 hb45; clear hp41
   refine wp_skip ?_
   refine thn ?_
   refine wp_seq ?_
   refine wp_block ?_
   refine sqH ?_; intro hQ47Q hQ47
   have hc48 := hp46.1; have hp49 := hp46.2; clear hp46
   refine ix hF44 (T := tyFilter) (xs := u0) hs3 x11 hc48 (k := .i64) (e := 28) (bytes := 24) (nog rfl _) rfl (by kernel_rfl) rfl (by kernel_rfl) (by kernel_rfl) (by kernel_rfl) ?_; intro b50 off51 cs52 q53 a57 hq54 hP55 hT56 hF58; clear hF44
   have hp59 := hp49 q53 hq54; clear hp49
   obtain rfl : cs52 = ([.int .i64 q53.Want, .int .i64 q53.Mask, .bool q53.Long] : List Value) := hT56
   refine z2 hF58 hM40 14 hP55 0 3 [.int .i64 q53.Want, .int .i64 q53.Mask, .bool q53.Long] rfl ?_; intro a60 hF61; clear hF58
   refine sn hF61 hM40 (fun b => .pointer (some ⟨b, 0, none⟩)) [.int .i64 0, .int .i64 0, .bool false] 28 (nog rfl _) rfl (by kernel_rfl) (by kernel_rfl) ?_; intro b62 a63 wd65 hF64 hM66; clear hF61 hM40
   refine sr hF64 hM66 0 [.int .i64 q53.Want, .int .i64 q53.Mask, .bool q53.Long] (b := b62) (off := 0) (cs := [.int .i64 0, .int .i64 0, .bool false]) (ty := 28) (u := .agg #[.int .i64 q53.Want, .int .i64 q53.Mask, .bool q53.Long]) (nog rfl _) rfl rfl (by kernel_rfl) (by kernel_rfl) (by kernel_rfl) (by kernel_rfl) (by kernel_rfl) (by kernel_rfl) (by kernel_rfl) ?_; intro wd67 hM68; clear hM66
   have hM69 : Mem w.heap.size [] w Z [.row b62 [.int .i64 q53.Want, .int .i64 q53.Mask, .bool q53.Long] 28] Z wd67 := hM68; clear hM68
   refine nlH (hQ47 _ _ ?_); clear hQ47 hQ47Q
   refine sqH ?_; intro hQ70Q hQ70
   refine s1 hF64 5 (.int .i64 2047) ?_; intro a71 hF72; clear hF64
   refine nlH (hQ70 _ _ ?_); clear hQ70 hQ70Q
   refine wp_seq ?_
   refine sqH ?_; intro hQ73Q hQ73
   refine s1 hF72 15 (.pointer (some ⟨b62, 2, none⟩)) ?_; intro a74 hF75; clear hF72
   refine l1 hF75 hM69 16 0 2 (.bool q53.Long) rfl rfl ?_; intro a76 hF77; clear hF75
   refine nlH (hQ73 _ _ ?_); clear hQ73 hQ73Q
   refine cd hF77 (t := q53.Long) (by kernel_rfl) (fun hb78 => ?_) (fun hb78 => ?_)
   · -- yes
    have hp79 := hp59.1 hb78; clear hp59
    refine rgH ?_; intro hQ80Q hQ80
    refine s1 hF77 5 (.int .i64 536870911) ?_; intro a81 hF82; clear hF77
    refine nlH (hQ80 _ _ ?_); clear hQ80 hQ80Q
    refine thn ?_
    refine sqH ?_; intro hQ83Q hQ83
    refine s1 hF82 17 (.pointer (some ⟨b62, 0, none⟩)) ?_; intro a84 hF85; clear hF82
    refine l1 hF85 hM69 18 0 0 (.int .i64 q53.Want) rfl rfl ?_; intro a86 hF87; clear hF85
    refine s1 hF87 19 (.pointer (some ⟨b62, 1, none⟩)) ?_; intro a88 hF89; clear hF87
    refine l1 hF89 hM69 20 0 1 (.int .i64 q53.Mask) rfl rfl ?_; intro a90 hF91; clear hF89
    refine st hF91 (.int .i64 (min q53.Want q53.Mask)) (nog rfl _) rfl (by kernel_rfl) (re_ (p0 hF91 (r := .ok (.value (.int .i64 (if q53.Mask < q53.Want then q53.Mask else q53.Want))) wd67) (by kernel_rfl)) (by rw [imin])) ?_; intro a92 hF93; clear hF91
    refine s1 hF93 22 (.bool (decide ((min q53.Want q53.Mask) < 0))) ?_; intro a94 hF95; clear hF93
    refine s1 hF95 23 (.bool (decide ((min q53.Want q53.Mask) < 0))) ?_; intro a96 hF97; clear hF95
    have hF98 := hF97.atom ((decide ((min q53.Want q53.Mask) < 0)) == false) (by kernel_rfl); clear hF97
    refine gp hF98 24 0 [] (decide ((min q53.Want q53.Mask) < 0)) (.pointer (some ⟨b62, 0, none⟩)) rfl rfl ?_; intro a99 hF100; clear hF98
    refine gd hF100 (.int .i64 q53.Want) (m := 0) (cj := []) (bj := decide ((min q53.Want q53.Mask) < 0)) rfl rfl (by kernel_rfl) rfl (by kernel_rfl) (by kernel_rfl) (by kernel_rfl) (fun hg => ld hF100 hM69 0 (g := [0]) (b := b62) (off := 0) (cs := [.int .i64 q53.Want, .int .i64 q53.Mask, .bool q53.Long]) (ty := 28) rfl (by kernel_rfl) (by kernel_rfl) (by kernel_rfl) (by kernel_rfl) hg) ?_; intro a101 hF102; clear hF100
    refine gp hF102 26 0 [] (decide ((min q53.Want q53.Mask) < 0)) (.pointer (some ⟨b62, 1, none⟩)) rfl rfl ?_; intro a103 hF104; clear hF102
    refine gd hF104 (.int .i64 q53.Mask) (m := 0) (cj := []) (bj := decide ((min q53.Want q53.Mask) < 0)) rfl rfl (by kernel_rfl) rfl (by kernel_rfl) (by kernel_rfl) (by kernel_rfl) (fun hg => ld hF104 hM69 0 (g := [0]) (b := b62) (off := 1) (cs := [.int .i64 q53.Want, .int .i64 q53.Mask, .bool q53.Long]) (ty := 28) rfl (by kernel_rfl) (by kernel_rfl) (by kernel_rfl) (by kernel_rfl) hg) ?_; intro a105 hF106; clear hF104
    refine gd hF106 (.int .i64 (max q53.Want q53.Mask)) (m := 0) (cj := []) (bj := decide ((min q53.Want q53.Mask) < 0)) rfl rfl (by kernel_rfl) rfl (by kernel_rfl) (by kernel_rfl) (by kernel_rfl) (fun hg => re_ (pu hF106 (g := [0]) (r := .ok (.value (.int .i64 (if q53.Want < q53.Mask then q53.Mask else q53.Want))) wd67) (by kernel_rfl) hg) (by rw [imax])) ?_; intro a107 hF108; clear hF106
    refine gp hF108 29 0 [] (decide ((min q53.Want q53.Mask) < 0)) (.int .i64 536870911) rfl rfl ?_; intro a109 hF110; clear hF108
    refine gp hF110 30 0 [] (decide ((min q53.Want q53.Mask) < 0)) (.bool (decide ((max q53.Want q53.Mask) > 536870911))) rfl rfl ?_; intro a111 hF112; clear hF110
    refine st hF112 (.bool ((decide ((min q53.Want q53.Mask) < 0)) || (decide ((max q53.Want q53.Mask) > 536870911)))) (nog rfl _) rfl (by kernel_rfl) (pk_or hF112 (g := []) (m := 0) (b := decide ((min q53.Want q53.Mask) < 0)) (v := decide ((max q53.Want q53.Mask) > 536870911)) rfl (by kernel_rfl) (by kernel_rfl) (by kernel_rfl) rfl) ?_; intro a113 hF114; clear hF112
    refine nlH (hQ83 _ _ ?_); clear hQ83 hQ83Q
    refine cd hF114 (t := (decide ((min q53.Want q53.Mask) < 0)) || (decide ((max q53.Want q53.Mask) > 536870911))) (by kernel_rfl) (fun hb115 => ?_) (fun hb115 => ?_)
    · -- yes
     have hp116 := hp79.1 hb115; clear hp79
     have hF117 : Fr 33 [] [] a113 := hF114.region (by kernel_rfl) (by kernel_rfl); clear hF114
     refine sqH ?_; intro hQ118Q hQ118
     refine s1 hF117 2 (.int .i64 3) ?_; intro a119 hF120; clear hF117
     refine nlH (hQ118 _ _ ?_); clear hQ118 hQ118Q
     refine wp_ret ?_
     refine ibr ?_
     refine thr ?_
     refine thr ?_
     refine ibr ?_
     refine thr ?_
     refine rt (fn := Try.f19) (v := .int .i64 3) hF120 (re1 hF120 (fn := Try.f19) rfl (by kernel_rfl)) ?_
     exact ⟨3, rfl, hp116, hM69.below⟩
    · -- no
     have hp121 := hp79.2 hb115; clear hp79
     refine wp_skip ?_
     refine ibn ?_
     refine thn ?_
     have hF122 : Fr 33 [] [⟨9, [], .slice ao1 u0.length cap2⟩, ⟨10, [], .int .i64 (u0.length : Int)⟩, ⟨11, [], .int .i64 x11⟩] a113 := hF114.region (by kernel_rfl) (by kernel_rfl); clear hF114
     refine rgH ?_; intro hQ123Q hQ123
     refine s1 hF122 32 (.int .i64 (w64 (x11 + 1))) ?_; intro a124 hF125; clear hF122
     refine s1 hF125 11 (.int .i64 (w64 (x11 + 1))) ?_; intro a126 hF127; clear hF125
     refine nlH (hQ123 _ _ ?_); clear hQ123 hQ123Q
     refine rd ?_
     exact ⟨w64 (x11 + 1), hp121.1, hp121.2, (hF127.region (by kernel_rfl) (by kernel_rfl)).anyβ _ (by kernel_rfl), hM69.keep (List.Sublist.cons _ (List.Sublist.slnil))⟩
   · -- no
    have hp128 := hp59.2 hb78; clear hp59
    refine wp_skip ?_
    refine thn ?_
    refine sqH ?_; intro hQ129Q hQ129
    refine s1 hF77 17 (.pointer (some ⟨b62, 0, none⟩)) ?_; intro a130 hF131; clear hF77
    refine l1 hF131 hM69 18 0 0 (.int .i64 q53.Want) rfl rfl ?_; intro a132 hF133; clear hF131
    refine s1 hF133 19 (.pointer (some ⟨b62, 1, none⟩)) ?_; intro a134 hF135; clear hF133
    refine l1 hF135 hM69 20 0 1 (.int .i64 q53.Mask) rfl rfl ?_; intro a136 hF137; clear hF135
    refine st hF137 (.int .i64 (min q53.Want q53.Mask)) (nog rfl _) rfl (by kernel_rfl) (re_ (p0 hF137 (r := .ok (.value (.int .i64 (if q53.Mask < q53.Want then q53.Mask else q53.Want))) wd67) (by kernel_rfl)) (by rw [imin])) ?_; intro a138 hF139; clear hF137
    refine s1 hF139 22 (.bool (decide ((min q53.Want q53.Mask) < 0))) ?_; intro a140 hF141; clear hF139
    refine s1 hF141 23 (.bool (decide ((min q53.Want q53.Mask) < 0))) ?_; intro a142 hF143; clear hF141
    have hF144 := hF143.atom ((decide ((min q53.Want q53.Mask) < 0)) == false) (by kernel_rfl); clear hF143
    refine gp hF144 24 0 [] (decide ((min q53.Want q53.Mask) < 0)) (.pointer (some ⟨b62, 0, none⟩)) rfl rfl ?_; intro a145 hF146; clear hF144
    refine gd hF146 (.int .i64 q53.Want) (m := 0) (cj := []) (bj := decide ((min q53.Want q53.Mask) < 0)) rfl rfl (by kernel_rfl) rfl (by kernel_rfl) (by kernel_rfl) (by kernel_rfl) (fun hg => ld hF146 hM69 0 (g := [0]) (b := b62) (off := 0) (cs := [.int .i64 q53.Want, .int .i64 q53.Mask, .bool q53.Long]) (ty := 28) rfl (by kernel_rfl) (by kernel_rfl) (by kernel_rfl) (by kernel_rfl) hg) ?_; intro a147 hF148; clear hF146
    refine gp hF148 26 0 [] (decide ((min q53.Want q53.Mask) < 0)) (.pointer (some ⟨b62, 1, none⟩)) rfl rfl ?_; intro a149 hF150; clear hF148
    refine gd hF150 (.int .i64 q53.Mask) (m := 0) (cj := []) (bj := decide ((min q53.Want q53.Mask) < 0)) rfl rfl (by kernel_rfl) rfl (by kernel_rfl) (by kernel_rfl) (by kernel_rfl) (fun hg => ld hF150 hM69 0 (g := [0]) (b := b62) (off := 1) (cs := [.int .i64 q53.Want, .int .i64 q53.Mask, .bool q53.Long]) (ty := 28) rfl (by kernel_rfl) (by kernel_rfl) (by kernel_rfl) (by kernel_rfl) hg) ?_; intro a151 hF152; clear hF150
    refine gd hF152 (.int .i64 (max q53.Want q53.Mask)) (m := 0) (cj := []) (bj := decide ((min q53.Want q53.Mask) < 0)) rfl rfl (by kernel_rfl) rfl (by kernel_rfl) (by kernel_rfl) (by kernel_rfl) (fun hg => re_ (pu hF152 (g := [0]) (r := .ok (.value (.int .i64 (if q53.Want < q53.Mask then q53.Mask else q53.Want))) wd67) (by kernel_rfl) hg) (by rw [imax])) ?_; intro a153 hF154; clear hF152
    refine gp hF154 29 0 [] (decide ((min q53.Want q53.Mask) < 0)) (.int .i64 2047) rfl rfl ?_; intro a155 hF156; clear hF154
    refine gp hF156 30 0 [] (decide ((min q53.Want q53.Mask) < 0)) (.bool (decide ((max q53.Want q53.Mask) > 2047))) rfl rfl ?_; intro a157 hF158; clear hF156
    refine st hF158 (.bool ((decide ((min q53.Want q53.Mask) < 0)) || (decide ((max q53.Want q53.Mask) > 2047)))) (nog rfl _) rfl (by kernel_rfl) (pk_or hF158 (g := []) (m := 0) (b := decide ((min q53.Want q53.Mask) < 0)) (v := decide ((max q53.Want q53.Mask) > 2047)) rfl (by kernel_rfl) (by kernel_rfl) (by kernel_rfl) rfl) ?_; intro a159 hF160; clear hF158
    refine nlH (hQ129 _ _ ?_); clear hQ129 hQ129Q
    refine cd hF160 (t := (decide ((min q53.Want q53.Mask) < 0)) || (decide ((max q53.Want q53.Mask) > 2047))) (by kernel_rfl) (fun hb161 => ?_) (fun hb161 => ?_)
    · -- yes
     have hp162 := hp128.1 hb161; clear hp128
     have hF163 : Fr 33 [] [] a159 := hF160.region (by kernel_rfl) (by kernel_rfl); clear hF160
     refine sqH ?_; intro hQ164Q hQ164
     refine s1 hF163 2 (.int .i64 3) ?_; intro a165 hF166; clear hF163
     refine nlH (hQ164 _ _ ?_); clear hQ164 hQ164Q
     refine wp_ret ?_
     refine ibr ?_
     refine thr ?_
     refine thr ?_
     refine ibr ?_
     refine thr ?_
     refine rt (fn := Try.f19) (v := .int .i64 3) hF166 (re1 hF166 (fn := Try.f19) rfl (by kernel_rfl)) ?_
     exact ⟨3, rfl, hp162, hM69.below⟩
    · -- no
     have hp167 := hp128.2 hb161; clear hp128
     refine wp_skip ?_
     refine ibn ?_
     refine thn ?_
     have hF168 : Fr 33 [] [⟨9, [], .slice ao1 u0.length cap2⟩, ⟨10, [], .int .i64 (u0.length : Int)⟩, ⟨11, [], .int .i64 x11⟩] a159 := hF160.region (by kernel_rfl) (by kernel_rfl); clear hF160
     refine rgH ?_; intro hQ169Q hQ169
     refine s1 hF168 32 (.int .i64 (w64 (x11 + 1))) ?_; intro a170 hF171; clear hF168
     refine s1 hF171 11 (.int .i64 (w64 (x11 + 1))) ?_; intro a172 hF173; clear hF171
     refine nlH (hQ169 _ _ ?_); clear hQ169 hQ169Q
     refine rd ?_
     exact ⟨w64 (x11 + 1), hp167.1, hp167.2, (hF173.region (by kernel_rfl) (by kernel_rfl)).anyβ _ (by kernel_rfl), hM69.keep (List.Sublist.cons _ (List.Sublist.slnil))⟩
  · -- no
   have hp174 := hp41.2 hb45; clear hp41
   refine wp_exit ?_
   refine thx ?_
   refine thx ?_
   refine ibx ?_
   refine thn ?_
   refine sqH ?_; intro hQ175Q hQ175
   refine s1 hF44 2 (.int .i64 0) ?_; intro a176 hF177; clear hF44
   refine nlH (hQ175 _ _ ?_); clear hQ175 hQ175Q
   refine wp_ret ?_
   refine rt (fn := Try.f19) (v := .int .i64 0) hF177 (re1 hF177 (fn := Try.f19) rfl (by kernel_rfl)) ?_
   exact ⟨0, rfl, hp174, hM40.below⟩

set_option maxRecDepth 100000 in
theorem letsin_walk (u0 : Filter) (u1 : Frame) (ao1 : Option Addr) (cap2 : Nat) (Z : Fz) (w : World) (hs3 : SlR (tyInt .u8) Z ao1 cap2 u1.Data) (hZ : Z.on w) {K : Bool → Prop} (hp : letsin_vc u0 u1 K) : Calls Try.prog 22 #[.agg #[.int .i64 u0.Want, .int .i64 u0.Mask, .bool u0.Long], .agg #[.int .i64 u1.ID, .bool u1.Long, .bool u1.Fast, .bool u1.Remote, .int .i64 u1.Size, .slice ao1 u1.Data.length cap2]] w fun e w' => ∃ r : Bool, e = .returned (.bool r) ∧ K r ∧ Below w.heap.size w w' := by
 refine enter0 Try.func22 rfl rfl (by kernel_rfl) ?_; intro a0 hF0; have hM0 := Mem.start w Z hZ; have hle0 := Fz.le.refl Z
 have hp4 := hp (hs3.small); clear hp
 refine sqH ?_; intro hQ5Q hQ5
 refine sn hF0 hM0 (fun b => .pointer (some ⟨b, 0, none⟩)) [.int .i64 u0.Want, .int .i64 u0.Mask, .bool u0.Long] 28 (nog rfl _) rfl (by kernel_rfl) (by kernel_rfl) ?_; intro b6 a7 wd9 hF8 hM10; clear hF0 hM0
 refine sn hF8 hM10 (fun b => .pointer (some ⟨b, 0, none⟩)) [.int .i64 u1.ID, .bool u1.Long, .bool u1.Fast, .bool u1.Remote, .int .i64 u1.Size, .slice ao1 u1.Data.length cap2] 38 (nog rfl _) rfl (by kernel_rfl) (by kernel_rfl) ?_; intro b11 a12 wd14 hF13 hM15; clear hF8 hM10
 refine s1 hF13 4 (.bool false) ?_; intro a16 hF17; clear hF13
 refine nlH (hQ5 _ _ ?_); clear hQ5 hQ5Q
 refine sqH ?_; intro hQ18Q hQ18
 refine s1 hF17 5 (.pointer (some ⟨b6, 2, none⟩)) ?_; intro a19 hF20; clear hF17
 refine l1 hF20 hM15 6 1 2 (.bool u0.Long) rfl rfl ?_; intro a21 hF22; clear hF20
 refine s1 hF22 7 (.pointer (some ⟨b11, 1, none⟩)) ?_; intro a23 hF24; clear hF22
 refine l1 hF24 hM15 8 0 1 (.bool u1.Long) rfl rfl ?_; intro a25 hF26; clear hF24
 refine s1 hF26 9 (.bool (u0.Long == u1.Long)) ?_; intro a27 hF28; clear hF26
 refine s1 hF28 10 (.bool (u0.Long == u1.Long)) ?_; intro a29 hF30; clear hF28
 have hF31 := hF30.atom ((u0.Long == u1.Long) == true) (by kernel_rfl); clear hF30
 refine gp hF31 11 0 [] (u0.Long == u1.Long) (.pointer (some ⟨b6, 0, none⟩)) rfl rfl ?_; intro a32 hF33; clear hF31
 refine gd hF33 (.int .i64 u0.Want) (m := 0) (cj := []) (bj := u0.Long == u1.Long) rfl rfl (by kernel_rfl) rfl (by kernel_rfl) (by kernel_rfl) (by kernel_rfl) (fun hg => ld hF33 hM15 1 (g := [0]) (b := b6) (off := 0) (cs := [.int .i64 u0.Want, .int .i64 u0.Mask, .bool u0.Long]) (ty := 28) rfl (by kernel_rfl) (by kernel_rfl) (by kernel_rfl) (by kernel_rfl) hg) ?_; intro a34 hF35; clear hF33
 refine gp hF35 13 0 [] (u0.Long == u1.Long) (.pointer (some ⟨b6, 1, none⟩)) rfl rfl ?_; intro a36 hF37; clear hF35
 refine gd hF37 (.int .i64 u0.Mask) (m := 0) (cj := []) (bj := u0.Long == u1.Long) rfl rfl (by kernel_rfl) rfl (by kernel_rfl) (by kernel_rfl) (by kernel_rfl) (fun hg => ld hF37 hM15 1 (g := [0]) (b := b6) (off := 1) (cs := [.int .i64 u0.Want, .int .i64 u0.Mask, .bool u0.Long]) (ty := 28) rfl (by kernel_rfl) (by kernel_rfl) (by kernel_rfl) (by kernel_rfl) hg) ?_; intro a38 hF39; clear hF37
 refine gp hF39 15 0 [] (u0.Long == u1.Long) (.int .i64 (bAnd .i64 u0.Want u0.Mask)) rfl rfl ?_; intro a40 hF41; clear hF39
 refine gp hF41 16 0 [] (u0.Long == u1.Long) (.pointer (some ⟨b11, 0, none⟩)) rfl rfl ?_; intro a42 hF43; clear hF41
 refine gd hF43 (.int .i64 u1.ID) (m := 0) (cj := []) (bj := u0.Long == u1.Long) rfl rfl (by kernel_rfl) rfl (by kernel_rfl) (by kernel_rfl) (by kernel_rfl) (fun hg => ld hF43 hM15 0 (g := [0]) (b := b11) (off := 0) (cs := [.int .i64 u1.ID, .bool u1.Long, .bool u1.Fast, .bool u1.Remote, .int .i64 u1.Size, .slice ao1 u1.Data.length cap2]) (ty := 38) rfl (by kernel_rfl) (by kernel_rfl) (by kernel_rfl) (by kernel_rfl) hg) ?_; intro a44 hF45; clear hF43
 refine gp hF45 18 0 [] (u0.Long == u1.Long) (.pointer (some ⟨b6, 1, none⟩)) rfl rfl ?_; intro a46 hF47; clear hF45
 refine gd hF47 (.int .i64 u0.Mask) (m := 0) (cj := []) (bj := u0.Long == u1.Long) rfl rfl (by kernel_rfl) rfl (by kernel_rfl) (by kernel_rfl) (by kernel_rfl) (fun hg => ld hF47 hM15 1 (g := [0]) (b := b6) (off := 1) (cs := [.int .i64 u0.Want, .int .i64 u0.Mask, .bool u0.Long]) (ty := 28) rfl (by kernel_rfl) (by kernel_rfl) (by kernel_rfl) (by kernel_rfl) hg) ?_; intro a48 hF49; clear hF47
 refine gp hF49 20 0 [] (u0.Long == u1.Long) (.int .i64 (bAnd .i64 u1.ID u0.Mask)) rfl rfl ?_; intro a50 hF51; clear hF49
 refine gp hF51 21 0 [] (u0.Long == u1.Long) (.bool ((bAnd .i64 u0.Want u0.Mask) == (bAnd .i64 u1.ID u0.Mask))) rfl rfl ?_; intro a52 hF53; clear hF51
 refine st hF53 (.bool ((u0.Long == u1.Long) && ((bAnd .i64 u0.Want u0.Mask) == (bAnd .i64 u1.ID u0.Mask)))) (nog rfl _) rfl (by kernel_rfl) (pk_and hF53 (g := []) (m := 0) (b := u0.Long == u1.Long) (v := (bAnd .i64 u0.Want u0.Mask) == (bAnd .i64 u1.ID u0.Mask)) rfl (by kernel_rfl) (by kernel_rfl) (by kernel_rfl) rfl) ?_; intro a54 hF55; clear hF53
 refine s1 hF55 4 (.bool ((u0.Long == u1.Long) && ((bAnd .i64 u0.Want u0.Mask) == (bAnd .i64 u1.ID u0.Mask)))) ?_; intro a56 hF57; clear hF55
 refine nlH (hQ18 _ _ ?_); clear hQ18 hQ18Q
 refine wp_ret ?_
 refine rt (fn := Try.f22) (v := .bool ((u0.Long == u1.Long) && ((bAnd .i64 u0.Want u0.Mask) == (bAnd .i64 u1.ID u0.Mask)))) hF57 (re1 hF57 (fn := Try.f22) rfl (by kernel_rfl)) ?_
 exact ⟨(u0.Long == u1.Long) && ((bAnd .i64 u0.Want u0.Mask) == (bAnd .i64 u1.ID u0.Mask)), rfl, hp4, hM15.below⟩
theorem letsin_fun (u0 : Filter) (u1 : Frame) (ao1 : Option Addr) (cap2 : Nat) (Z : Fz) (w : World) (hs3 : SlR (tyInt .u8) Z ao1 cap2 u1.Data) (hZ : Z.on w) : Calls Try.prog 22 #[.agg #[.int .i64 u0.Want, .int .i64 u0.Mask, .bool u0.Long], .agg #[.int .i64 u1.ID, .bool u1.Long, .bool u1.Fast, .bool u1.Remote, .int .i64 u1.Size, .slice ao1 u1.Data.length cap2]] w fun e w' => e = .returned (.bool (letsin u0 u1)) ∧ Below w.heap.size w w' :=
  (letsin_walk u0 u1 ao1 cap2 Z w hs3 hZ (letsin_ok u0 u1)).mono fun _ _ ⟨r, he, hk, hb⟩ => ⟨by subst hk; exact he, hb⟩

set_option maxRecDepth 100000 in
theorem fwithin_walk (u0 : Filter) (u1 : Filter)  (Z : Fz) (w : World)  (hZ : Z.on w) {K : Bool → Prop} (hp : fwithin_vc u0 u1 K) : Calls Try.prog 51 #[.agg #[.int .i64 u0.Want, .int .i64 u0.Mask, .bool u0.Long], .agg #[.int .i64 u1.Want, .int .i64 u1.Mask, .bool u1.Long]] w fun e w' => ∃ r : Bool, e = .returned (.bool r) ∧ K r ∧ Below w.heap.size w w' := by
 refine enter0 Try.func51 rfl rfl (by kernel_rfl) ?_; intro a0 hF0; have hM0 := Mem.start w Z hZ; have hle0 := Fz.le.refl Z
 refine sqH ?_; intro hQ1Q hQ1
 refine sn hF0 hM0 (fun b => .pointer (some ⟨b, 0, none⟩)) [.int .i64 u0.Want, .int .i64 u0.Mask, .bool u0.Long] 28 (nog rfl _) rfl (by kernel_rfl) (by kernel_rfl) ?_; intro b2 a3 wd5 hF4 hM6; clear hF0 hM0
 refine sn hF4 hM6 (fun b => .pointer (some ⟨b, 0, none⟩)) [.int .i64 u1.Want, .int .i64 u1.Mask, .bool u1.Long] 28 (nog rfl _) rfl (by kernel_rfl) (by kernel_rfl) ?_; intro b7 a8 wd10 hF9 hM11; clear hF4 hM6
 refine s1 hF9 4 (.bool false) ?_; intro a12 hF13; clear hF9
 refine nlH (hQ1 _ _ ?_); clear hQ1 hQ1Q
 refine sqH ?_; intro hQ14Q hQ14
 refine s1 hF13 5 (.pointer (some ⟨b2, 2, none⟩)) ?_; intro a15 hF16; clear hF13
 refine l1 hF16 hM11 6 1 2 (.bool u0.Long) rfl rfl ?_; intro a17 hF18; clear hF16
 refine s1 hF18 7 (.pointer (some ⟨b7, 2, none⟩)) ?_; intro a19 hF20; clear hF18
 refine l1 hF20 hM11 8 0 2 (.bool u1.Long) rfl rfl ?_; intro a21 hF22; clear hF20
 refine s1 hF22 9 (.bool (u0.Long == u1.Long)) ?_; intro a23 hF24; clear hF22
 refine s1 hF24 10 (.bool (u0.Long == u1.Long)) ?_; intro a25 hF26; clear hF24
 have hF27 := hF26.atom ((u0.Long == u1.Long) == true) (by kernel_rfl); clear hF26
 refine gp hF27 11 0 [] (u0.Long == u1.Long) (.pointer (some ⟨b7, 1, none⟩)) rfl rfl ?_; intro a28 hF29; clear hF27
 refine gd hF29 (.int .i64 u1.Mask) (m := 0) (cj := []) (bj := u0.Long == u1.Long) rfl rfl (by kernel_rfl) rfl (by kernel_rfl) (by kernel_rfl) (by kernel_rfl) (fun hg => ld hF29 hM11 0 (g := [0]) (b := b7) (off := 1) (cs := [.int .i64 u1.Want, .int .i64 u1.Mask, .bool u1.Long]) (ty := 28) rfl (by kernel_rfl) (by kernel_rfl) (by kernel_rfl) (by kernel_rfl) hg) ?_; intro a30 hF31; clear hF29
 refine gp hF31 13 0 [] (u0.Long == u1.Long) (.pointer (some ⟨b2, 1, none⟩)) rfl rfl ?_; intro a32 hF33; clear hF31
 refine gd hF33 (.int .i64 u0.Mask) (m := 0) (cj := []) (bj := u0.Long == u1.Long) rfl rfl (by kernel_rfl) rfl (by kernel_rfl) (by kernel_rfl) (by kernel_rfl) (fun hg => ld hF33 hM11 1 (g := [0]) (b := b2) (off := 1) (cs := [.int .i64 u0.Want, .int .i64 u0.Mask, .bool u0.Long]) (ty := 28) rfl (by kernel_rfl) (by kernel_rfl) (by kernel_rfl) (by kernel_rfl) hg) ?_; intro a34 hF35; clear hF33
 refine gp hF35 15 0 [] (u0.Long == u1.Long) (.int .i64 (bAndNot .i64 u1.Mask u0.Mask)) rfl rfl ?_; intro a36 hF37; clear hF35
 refine gp hF37 16 0 [] (u0.Long == u1.Long) (.bool ((bAndNot .i64 u1.Mask u0.Mask) == 0)) rfl rfl ?_; intro a38 hF39; clear hF37
 refine st hF39 (.bool ((u0.Long == u1.Long) && ((bAndNot .i64 u1.Mask u0.Mask) == 0))) (nog rfl _) rfl (by kernel_rfl) (pk_and hF39 (g := []) (m := 0) (b := u0.Long == u1.Long) (v := (bAndNot .i64 u1.Mask u0.Mask) == 0) rfl (by kernel_rfl) (by kernel_rfl) (by kernel_rfl) rfl) ?_; intro a40 hF41; clear hF39
 refine s1 hF41 18 (.bool ((u0.Long == u1.Long) && ((bAndNot .i64 u1.Mask u0.Mask) == 0))) ?_; intro a42 hF43; clear hF41
 have hF44 := hF43.atom (((u0.Long == u1.Long) && ((bAndNot .i64 u1.Mask u0.Mask) == 0)) == true) (by kernel_rfl); clear hF43
 refine gp hF44 19 1 [] ((u0.Long == u1.Long) && ((bAndNot .i64 u1.Mask u0.Mask) == 0)) (.pointer (some ⟨b2, 0, none⟩)) rfl rfl ?_; intro a45 hF46; clear hF44
 refine gd hF46 (.int .i64 u0.Want) (m := 1) (cj := []) (bj := (u0.Long == u1.Long) && ((bAndNot .i64 u1.Mask u0.Mask) == 0)) rfl rfl (by kernel_rfl) rfl (by kernel_rfl) (by kernel_rfl) (by kernel_rfl) (fun hg => ld hF46 hM11 1 (g := [1]) (b := b2) (off := 0) (cs := [.int .i64 u0.Want, .int .i64 u0.Mask, .bool u0.Long]) (ty := 28) rfl (by kernel_rfl) (by kernel_rfl) (by kernel_rfl) (by kernel_rfl) hg) ?_; intro a47 hF48; clear hF46
 refine gp hF48 21 1 [] ((u0.Long == u1.Long) && ((bAndNot .i64 u1.Mask u0.Mask) == 0)) (.pointer (some ⟨b7, 0, none⟩)) rfl rfl ?_; intro a49 hF50; clear hF48
 refine gd hF50 (.int .i64 u1.Want) (m := 1) (cj := []) (bj := (u0.Long == u1.Long) && ((bAndNot .i64 u1.Mask u0.Mask) == 0)) rfl rfl (by kernel_rfl) rfl (by kernel_rfl) (by kernel_rfl) (by kernel_rfl) (fun hg => ld hF50 hM11 0 (g := [1]) (b := b7) (off := 0) (cs := [.int .i64 u1.Want, .int .i64 u1.Mask, .bool u1.Long]) (ty := 28) rfl (by kernel_rfl) (by kernel_rfl) (by kernel_rfl) (by kernel_rfl) hg) ?_; intro a51 hF52; clear hF50
 refine gp hF52 23 1 [] ((u0.Long == u1.Long) && ((bAndNot .i64 u1.Mask u0.Mask) == 0)) (.int .i64 (bXor .i64 u0.Want u1.Want)) rfl rfl ?_; intro a53 hF54; clear hF52
 refine gp hF54 24 1 [] ((u0.Long == u1.Long) && ((bAndNot .i64 u1.Mask u0.Mask) == 0)) (.pointer (some ⟨b7, 1, none⟩)) rfl rfl ?_; intro a55 hF56; clear hF54
 refine gd hF56 (.int .i64 u1.Mask) (m := 1) (cj := []) (bj := (u0.Long == u1.Long) && ((bAndNot .i64 u1.Mask u0.Mask) == 0)) rfl rfl (by kernel_rfl) rfl (by kernel_rfl) (by kernel_rfl) (by kernel_rfl) (fun hg => ld hF56 hM11 0 (g := [1]) (b := b7) (off := 1) (cs := [.int .i64 u1.Want, .int .i64 u1.Mask, .bool u1.Long]) (ty := 28) rfl (by kernel_rfl) (by kernel_rfl) (by kernel_rfl) (by kernel_rfl) hg) ?_; intro a57 hF58; clear hF56
 refine gp hF58 26 1 [] ((u0.Long == u1.Long) && ((bAndNot .i64 u1.Mask u0.Mask) == 0)) (.int .i64 (bAnd .i64 (bXor .i64 u0.Want u1.Want) u1.Mask)) rfl rfl ?_; intro a59 hF60; clear hF58
 refine gp hF60 27 1 [] ((u0.Long == u1.Long) && ((bAndNot .i64 u1.Mask u0.Mask) == 0)) (.bool ((bAnd .i64 (bXor .i64 u0.Want u1.Want) u1.Mask) == 0)) rfl rfl ?_; intro a61 hF62; clear hF60
 refine st hF62 (.bool (((u0.Long == u1.Long) && ((bAndNot .i64 u1.Mask u0.Mask) == 0)) && ((bAnd .i64 (bXor .i64 u0.Want u1.Want) u1.Mask) == 0))) (nog rfl _) rfl (by kernel_rfl) (pk_and hF62 (g := []) (m := 1) (b := (u0.Long == u1.Long) && ((bAndNot .i64 u1.Mask u0.Mask) == 0)) (v := (bAnd .i64 (bXor .i64 u0.Want u1.Want) u1.Mask) == 0) rfl (by kernel_rfl) (by kernel_rfl) (by kernel_rfl) rfl) ?_; intro a63 hF64; clear hF62
 refine s1 hF64 4 (.bool (((u0.Long == u1.Long) && ((bAndNot .i64 u1.Mask u0.Mask) == 0)) && ((bAnd .i64 (bXor .i64 u0.Want u1.Want) u1.Mask) == 0))) ?_; intro a65 hF66; clear hF64
 refine nlH (hQ14 _ _ ?_); clear hQ14 hQ14Q
 refine wp_ret ?_
 refine rt (fn := Try.f51) (v := .bool (((u0.Long == u1.Long) && ((bAndNot .i64 u1.Mask u0.Mask) == 0)) && ((bAnd .i64 (bXor .i64 u0.Want u1.Want) u1.Mask) == 0))) hF66 (re1 hF66 (fn := Try.f51) rfl (by kernel_rfl)) ?_
 exact ⟨((u0.Long == u1.Long) && ((bAndNot .i64 u1.Mask u0.Mask) == 0)) && ((bAnd .i64 (bXor .i64 u0.Want u1.Want) u1.Mask) == 0), rfl, hp, hM11.below⟩
theorem fwithin_fun (u0 : Filter) (u1 : Filter)  (Z : Fz) (w : World)  (hZ : Z.on w) : Calls Try.prog 51 #[.agg #[.int .i64 u0.Want, .int .i64 u0.Mask, .bool u0.Long], .agg #[.int .i64 u1.Want, .int .i64 u1.Mask, .bool u1.Long]] w fun e w' => e = .returned (.bool (fwithin u0 u1)) ∧ Below w.heap.size w w' :=
  (fwithin_walk u0 u1  Z w  hZ (fwithin_ok u0 u1)).mono fun _ _ ⟨r, he, hk, hb⟩ => ⟨by subst hk; exact he, hb⟩

set_option maxRecDepth 100000 in
theorem inall_walk (u0 : Filter) (u1 : Filter)  (Z : Fz) (w : World)  (hZ : Z.on w) {K : Bool → Prop} (hp : inall_vc u0 u1 K) : Calls Try.prog 24 #[.agg #[.int .i64 u0.Want, .int .i64 u0.Mask, .bool u0.Long], .agg #[.int .i64 u1.Want, .int .i64 u1.Mask, .bool u1.Long]] w fun e w' => ∃ r : Bool, e = .returned (.bool r) ∧ K r ∧ Below w.heap.size w w' := by
 refine enter0 Try.func24 rfl rfl (by kernel_rfl) ?_; intro a0 hF0; have hM0 := Mem.start w Z hZ; have hle0 := Fz.le.refl Z
 refine sqH ?_; intro hQ1Q hQ1
 refine sn hF0 hM0 (fun b => .pointer (some ⟨b, 0, none⟩)) [.int .i64 u0.Want, .int .i64 u0.Mask, .bool u0.Long] 28 (nog rfl _) rfl (by kernel_rfl) (by kernel_rfl) ?_; intro b2 a3 wd5 hF4 hM6; clear hF0 hM0
 refine sn hF4 hM6 (fun b => .pointer (some ⟨b, 0, none⟩)) [.int .i64 u1.Want, .int .i64 u1.Mask, .bool u1.Long] 28 (nog rfl _) rfl (by kernel_rfl) (by kernel_rfl) ?_; intro b7 a8 wd10 hF9 hM11; clear hF4 hM6
 refine s1 hF9 4 (.bool false) ?_; intro a12 hF13; clear hF9
 refine nlH (hQ1 _ _ ?_); clear hQ1 hQ1Q
 refine sqH ?_; intro hQ14Q hQ14
 refine s1 hF13 5 (.pointer (some ⟨b2, 2, none⟩)) ?_; intro a15 hF16; clear hF13
 refine l1 hF16 hM11 6 1 2 (.bool u0.Long) rfl rfl ?_; intro a17 hF18; clear hF16
 refine s1 hF18 7 (.pointer (some ⟨b7, 2, none⟩)) ?_; intro a19 hF20; clear hF18
 refine l1 hF20 hM11 8 0 2 (.bool u1.Long) rfl rfl ?_; intro a21 hF22; clear hF20
 refine s1 hF22 9 (.bool (u0.Long == u1.Long)) ?_; intro a23 hF24; clear hF22
 refine s1 hF24 10 (.bool (u0.Long == u1.Long)) ?_; intro a25 hF26; clear hF24
 have hF27 := hF26.atom ((u0.Long == u1.Long) == true) (by kernel_rfl); clear hF26
 refine gp hF27 11 0 [] (u0.Long == u1.Long) (.pointer (some ⟨b2, 1, none⟩)) rfl rfl ?_; intro a28 hF29; clear hF27
 refine gd hF29 (.int .i64 u0.Mask) (m := 0) (cj := []) (bj := u0.Long == u1.Long) rfl rfl (by kernel_rfl) rfl (by kernel_rfl) (by kernel_rfl) (by kernel_rfl) (fun hg => ld hF29 hM11 1 (g := [0]) (b := b2) (off := 1) (cs := [.int .i64 u0.Want, .int .i64 u0.Mask, .bool u0.Long]) (ty := 28) rfl (by kernel_rfl) (by kernel_rfl) (by kernel_rfl) (by kernel_rfl) hg) ?_; intro a30 hF31; clear hF29
 refine gp hF31 13 0 [] (u0.Long == u1.Long) (.pointer (some ⟨b7, 1, none⟩)) rfl rfl ?_; intro a32 hF33; clear hF31
 refine gd hF33 (.int .i64 u1.Mask) (m := 0) (cj := []) (bj := u0.Long == u1.Long) rfl rfl (by kernel_rfl) rfl (by kernel_rfl) (by kernel_rfl) (by kernel_rfl) (fun hg => ld hF33 hM11 0 (g := [0]) (b := b7) (off := 1) (cs := [.int .i64 u1.Want, .int .i64 u1.Mask, .bool u1.Long]) (ty := 28) rfl (by kernel_rfl) (by kernel_rfl) (by kernel_rfl) (by kernel_rfl) hg) ?_; intro a34 hF35; clear hF33
 refine gp hF35 15 0 [] (u0.Long == u1.Long) (.int .i64 (bAnd .i64 u0.Mask u1.Mask)) rfl rfl ?_; intro a36 hF37; clear hF35
 refine gp hF37 16 0 [] (u0.Long == u1.Long) (.pointer (some ⟨b7, 1, none⟩)) rfl rfl ?_; intro a38 hF39; clear hF37
 refine gd hF39 (.int .i64 u1.Mask) (m := 0) (cj := []) (bj := u0.Long == u1.Long) rfl rfl (by kernel_rfl) rfl (by kernel_rfl) (by kernel_rfl) (by kernel_rfl) (fun hg => ld hF39 hM11 0 (g := [0]) (b := b7) (off := 1) (cs := [.int .i64 u1.Want, .int .i64 u1.Mask, .bool u1.Long]) (ty := 28) rfl (by kernel_rfl) (by kernel_rfl) (by kernel_rfl) (by kernel_rfl) hg) ?_; intro a40 hF41; clear hF39
 refine gp hF41 18 0 [] (u0.Long == u1.Long) (.bool ((bAnd .i64 u0.Mask u1.Mask) == u1.Mask)) rfl rfl ?_; intro a42 hF43; clear hF41
 refine st hF43 (.bool ((u0.Long == u1.Long) && ((bAnd .i64 u0.Mask u1.Mask) == u1.Mask))) (nog rfl _) rfl (by kernel_rfl) (pk_and hF43 (g := []) (m := 0) (b := u0.Long == u1.Long) (v := (bAnd .i64 u0.Mask u1.Mask) == u1.Mask) rfl (by kernel_rfl) (by kernel_rfl) (by kernel_rfl) rfl) ?_; intro a44 hF45; clear hF43
 refine s1 hF45 20 (.bool ((u0.Long == u1.Long) && ((bAnd .i64 u0.Mask u1.Mask) == u1.Mask))) ?_; intro a46 hF47; clear hF45
 have hF48 := hF47.atom (((u0.Long == u1.Long) && ((bAnd .i64 u0.Mask u1.Mask) == u1.Mask)) == true) (by kernel_rfl); clear hF47
 refine gp hF48 21 1 [] ((u0.Long == u1.Long) && ((bAnd .i64 u0.Mask u1.Mask) == u1.Mask)) (.pointer (some ⟨b2, 0, none⟩)) rfl rfl ?_; intro a49 hF50; clear hF48
 refine gd hF50 (.int .i64 u0.Want) (m := 1) (cj := []) (bj := (u0.Long == u1.Long) && ((bAnd .i64 u0.Mask u1.Mask) == u1.Mask)) rfl rfl (by kernel_rfl) rfl (by kernel_rfl) (by kernel_rfl) (by kernel_rfl) (fun hg => ld hF50 hM11 1 (g := [1]) (b := b2) (off := 0) (cs := [.int .i64 u0.Want, .int .i64 u0.Mask, .bool u0.Long]) (ty := 28) rfl (by kernel_rfl) (by kernel_rfl) (by kernel_rfl) (by kernel_rfl) hg) ?_; intro a51 hF52; clear hF50
 refine gp hF52 23 1 [] ((u0.Long == u1.Long) && ((bAnd .i64 u0.Mask u1.Mask) == u1.Mask)) (.pointer (some ⟨b7, 1, none⟩)) rfl rfl ?_; intro a53 hF54; clear hF52
 refine gd hF54 (.int .i64 u1.Mask) (m := 1) (cj := []) (bj := (u0.Long == u1.Long) && ((bAnd .i64 u0.Mask u1.Mask) == u1.Mask)) rfl rfl (by kernel_rfl) rfl (by kernel_rfl) (by kernel_rfl) (by kernel_rfl) (fun hg => ld hF54 hM11 0 (g := [1]) (b := b7) (off := 1) (cs := [.int .i64 u1.Want, .int .i64 u1.Mask, .bool u1.Long]) (ty := 28) rfl (by kernel_rfl) (by kernel_rfl) (by kernel_rfl) (by kernel_rfl) hg) ?_; intro a55 hF56; clear hF54
 refine gp hF56 25 1 [] ((u0.Long == u1.Long) && ((bAnd .i64 u0.Mask u1.Mask) == u1.Mask)) (.int .i64 (bAnd .i64 u0.Want u1.Mask)) rfl rfl ?_; intro a57 hF58; clear hF56
 refine gp hF58 26 1 [] ((u0.Long == u1.Long) && ((bAnd .i64 u0.Mask u1.Mask) == u1.Mask)) (.pointer (some ⟨b7, 0, none⟩)) rfl rfl ?_; intro a59 hF60; clear hF58
 refine gd hF60 (.int .i64 u1.Want) (m := 1) (cj := []) (bj := (u0.Long == u1.Long) && ((bAnd .i64 u0.Mask u1.Mask) == u1.Mask)) rfl rfl (by kernel_rfl) rfl (by kernel_rfl) (by kernel_rfl) (by kernel_rfl) (fun hg => ld hF60 hM11 0 (g := [1]) (b := b7) (off := 0) (cs := [.int .i64 u1.Want, .int .i64 u1.Mask, .bool u1.Long]) (ty := 28) rfl (by kernel_rfl) (by kernel_rfl) (by kernel_rfl) (by kernel_rfl) hg) ?_; intro a61 hF62; clear hF60
 refine gp hF62 28 1 [] ((u0.Long == u1.Long) && ((bAnd .i64 u0.Mask u1.Mask) == u1.Mask)) (.pointer (some ⟨b7, 1, none⟩)) rfl rfl ?_; intro a63 hF64; clear hF62
 refine gd hF64 (.int .i64 u1.Mask) (m := 1) (cj := []) (bj := (u0.Long == u1.Long) && ((bAnd .i64 u0.Mask u1.Mask) == u1.Mask)) rfl rfl (by kernel_rfl) rfl (by kernel_rfl) (by kernel_rfl) (by kernel_rfl) (fun hg => ld hF64 hM11 0 (g := [1]) (b := b7) (off := 1) (cs := [.int .i64 u1.Want, .int .i64 u1.Mask, .bool u1.Long]) (ty := 28) rfl (by kernel_rfl) (by kernel_rfl) (by kernel_rfl) (by kernel_rfl) hg) ?_; intro a65 hF66; clear hF64
 refine gp hF66 30 1 [] ((u0.Long == u1.Long) && ((bAnd .i64 u0.Mask u1.Mask) == u1.Mask)) (.int .i64 (bAnd .i64 u1.Want u1.Mask)) rfl rfl ?_; intro a67 hF68; clear hF66
 refine gp hF68 31 1 [] ((u0.Long == u1.Long) && ((bAnd .i64 u0.Mask u1.Mask) == u1.Mask)) (.bool ((bAnd .i64 u0.Want u1.Mask) == (bAnd .i64 u1.Want u1.Mask))) rfl rfl ?_; intro a69 hF70; clear hF68
 refine st hF70 (.bool (((u0.Long == u1.Long) && ((bAnd .i64 u0.Mask u1.Mask) == u1.Mask)) && ((bAnd .i64 u0.Want u1.Mask) == (bAnd .i64 u1.Want u1.Mask)))) (nog rfl _) rfl (by kernel_rfl) (pk_and hF70 (g := []) (m := 1) (b := (u0.Long == u1.Long) && ((bAnd .i64 u0.Mask u1.Mask) == u1.Mask)) (v := (bAnd .i64 u0.Want u1.Mask) == (bAnd .i64 u1.Want u1.Mask)) rfl (by kernel_rfl) (by kernel_rfl) (by kernel_rfl) rfl) ?_; intro a71 hF72; clear hF70
 refine s1 hF72 4 (.bool (((u0.Long == u1.Long) && ((bAnd .i64 u0.Mask u1.Mask) == u1.Mask)) && ((bAnd .i64 u0.Want u1.Mask) == (bAnd .i64 u1.Want u1.Mask)))) ?_; intro a73 hF74; clear hF72
 refine nlH (hQ14 _ _ ?_); clear hQ14 hQ14Q
 refine wp_ret ?_
 refine rt (fn := Try.f24) (v := .bool (((u0.Long == u1.Long) && ((bAnd .i64 u0.Mask u1.Mask) == u1.Mask)) && ((bAnd .i64 u0.Want u1.Mask) == (bAnd .i64 u1.Want u1.Mask)))) hF74 (re1 hF74 (fn := Try.f24) rfl (by kernel_rfl)) ?_
 exact ⟨((u0.Long == u1.Long) && ((bAnd .i64 u0.Mask u1.Mask) == u1.Mask)) && ((bAnd .i64 u0.Want u1.Mask) == (bAnd .i64 u1.Want u1.Mask)), rfl, hp, hM11.below⟩
theorem inall_fun (u0 : Filter) (u1 : Filter)  (Z : Fz) (w : World)  (hZ : Z.on w) : Calls Try.prog 24 #[.agg #[.int .i64 u0.Want, .int .i64 u0.Mask, .bool u0.Long], .agg #[.int .i64 u1.Want, .int .i64 u1.Mask, .bool u1.Long]] w fun e w' => e = .returned (.bool (inall u0 u1)) ∧ Below w.heap.size w w' :=
  (inall_walk u0 u1  Z w  hZ (inall_ok u0 u1)).mono fun _ _ ⟨r, he, hk, hb⟩ => ⟨by subst hk; exact he, hb⟩

set_option maxRecDepth 100000 in
theorem sindex_walk (u0 : List Int) (u1 : Int) (ao1 : Option Addr) (cap2 : Nat) (Z : Fz) (w : World) (hs3 : SlR (tyInt .i64) Z ao1 cap2 u0) (hZ : Z.on w) {K : Int → Prop} (hp : sindex_vc u0 u1 K) : Calls Try.prog 66 #[.slice ao1 u0.length cap2, .int .i64 u1] w fun e w' => ∃ r : Int, e = .returned (.int .i64 r) ∧ K r ∧ Below w.heap.size w w' := by
 refine enter0 Try.func66 rfl rfl (by kernel_rfl) ?_; intro a0 hF0; have hM0 := Mem.start w Z hZ; have hle0 := Fz.le.refl Z
 have hp4 := hp (hs3.small); clear hp
 refine sqH ?_; intro hQ5Q hQ5
 refine s1 hF0 4 (.int .i64 0) ?_; intro a6 hF7; clear hF0
 refine nlH (hQ5 _ _ ?_); clear hQ5 hQ5Q
 refine wp_seq ?_
 refine sqH ?_; intro hQ8Q hQ8
 refine s1 hF7 6 (.slice ao1 u0.length cap2) ?_; intro a9 hF10; clear hF7
 refine s1 hF10 7 (.int .i64 (u0.length : Int)) ?_; intro a11 hF12; clear hF10
 refine s1 hF12 8 (.int .i64 0) ?_; intro a13 hF14; clear hF12
 refine nlH (hQ8 _ _ ?_); clear hQ8 hQ8Q
 refine wp_block ?_
 have hF15 : Fr 19 [] [⟨0, [], .slice ao1 u0.length cap2⟩, ⟨1, [], .int .i64 u1⟩, ⟨7, [], .int .i64 (u0.length : Int)⟩, ⟨8, [], .int .i64 0⟩] a13 := hF14.region (by kernel_rfl) (by kernel_rfl); clear hF14
 have hF17 : Fr 19 [] [⟨0, [], .slice ao1 u0.length cap2⟩, ⟨1, [], .int .i64 u1⟩, ⟨7, [], .int .i64 (u0.length : Int)⟩, ⟨8, [], .int .i64 0⟩] a13 := hF15.region (by kernel_rfl) (by kernel_rfl); clear hF15
 obtain ⟨inv16, mu16, hI20, hr19⟩ := hp4
 refine lp (ι := Int) (fun (s : Int) => [⟨0, [], .slice ao1 u0.length cap2⟩, ⟨1, [], .int .i64 u1⟩, ⟨7, [], .int .i64 (u0.length : Int)⟩, ⟨8, [], .int .i64 s⟩]) (fun (s : Int) => []) (fun (s : Int) => Z) (fun (s : Int) => inv16 s) (fun (s : Int) => mu16 s) 0 hI20 (by exact hF17.region (by kernel_rfl) (by kernel_rfl)) (by exact hM0) ?_
 rintro x8 hI18 a22 wd23 hF24 hM25
 have hF26 : Fr 19 [] [⟨0, [], .slice ao1 u0.length cap2⟩, ⟨1, [], .int .i64 u1⟩, ⟨7, [], .int .i64 (u0.length : Int)⟩, ⟨8, [], .int .i64 x8⟩] a22 := hF24; clear hF24 hF17
 have hM27 : Mem w.heap.size [] w Z [] Z wd23 := hM25; clear hM25 hM0
 have hp28 := hr19 x8 hI18
 refine sqH ?_; intro hQ29Q hQ29
 refine s1 hF26 9 (.bool (decide (x8 < (u0.length : Int)))) ?_; intro a30 hF31; clear hF26
 refine nlH (hQ29 _ _ ?_); clear hQ29 hQ29Q
 refine wp_seq ?_
 refine cd hF31 (t := decide (x8 < (u0.length : Int))) (by kernel_rfl) (fun hb32 => ?_) (fun hb32 => ?_)
 · -- yes
  have hp33 := hp28.1 hb32; clear hp28
  refine wp_skip ?_
  refine thn ?_
  refine wp_seq ?_
  refine wp_block ?_
  refine sqH ?_; intro hQ34Q hQ34
  refine s1 hF31 10 (.int .i64 x8) ?_; intro a35 hF36; clear hF31
  refine s1 hF36 5 (.int .i64 x8) ?_; intro a37 hF38; clear hF36
  refine nlH (hQ34 _ _ ?_); clear hQ34 hQ34Q
  refine sqH ?_; intro hQ39Q hQ39
  refine s1 hF38 11 (.int .i64 u1) ?_; intro a40 hF41; clear hF38
  refine s1 hF41 12 (.slice ao1 u0.length cap2) ?_; intro a42 hF43; clear hF41
  refine s1 hF43 13 (.int .i64 x8) ?_; intro a44 hF45; clear hF43
  have hc46 := hp33.1; have hp47 := hp33.2; clear hp33
  refine ix hF45 (T := (tyInt .i64)) (xs := u0) hs3 x8 hc46 (k := .i64) (e := 3) (bytes := 8) (nog rfl _) rfl (by kernel_rfl) rfl (by kernel_rfl) (by kernel_rfl) (by kernel_rfl) ?_; intro b48 off49 cs50 q51 a55 hq52 hP53 hT54 hF56; clear hF45
  have hp57 := hp47 q51 hq52; clear hp47
  obtain rfl : cs50 = ([.int .i64 q51] : List Value) := hT54
  refine z1 hF56 hM27 15 hP53 0 (.int .i64 q51) rfl ?_; intro a58 hF59; clear hF56
  refine s1 hF59 16 (.bool (u1 == q51)) ?_; intro a60 hF61; clear hF59
  refine nlH (hQ39 _ _ ?_); clear hQ39 hQ39Q
  refine cd hF61 (t := u1 == q51) (by kernel_rfl) (fun hb62 => ?_) (fun hb62 => ?_)
  · -- yes
   have hp63 := hp57.1 hb62; clear hp57
   refine sqH ?_; intro hQ64Q hQ64
   refine s1 hF61 17 (.int .i64 x8) ?_; intro a65 hF66; clear hF61
   refine s1 hF66 4 (.int .i64 x8) ?_; intro a67 hF68; clear hF66
   refine nlH (hQ64 _ _ ?_); clear hQ64 hQ64Q
   refine wp_ret ?_
   refine ibr ?_
   refine thr ?_
   refine thr ?_
   refine ibr ?_
   refine thr ?_
   refine rt (fn := Try.f66) (v := .int .i64 x8) hF68 (re1 hF68 (fn := Try.f66) rfl (by kernel_rfl)) ?_
   exact ⟨x8, rfl, hp63, hM27.below⟩
  · -- no
   have hp69 := hp57.2 hb62; clear hp57
   refine wp_skip ?_
   refine ibn ?_
   refine thn ?_
   refine rgH ?_; intro hQ70Q hQ70
   refine s1 hF61 18 (.int .i64 (w64 (x8 + 1))) ?_; intro a71 hF72; clear hF61
   refine s1 hF72 8 (.int .i64 (w64 (x8 + 1))) ?_; intro a73 hF74; clear hF72
   refine nlH (hQ70 _ _ ?_); clear hQ70 hQ70Q
   refine rd ?_
   exact ⟨w64 (x8 + 1), hp69.1, hp69.2, (hF74.region (by kernel_rfl) (by kernel_rfl)).anyβ _ (by kernel_rfl), hM27.keep (List.Sublist.slnil)⟩
 · -- no
  have hp75 := hp28.2 hb32; clear hp28
  refine wp_exit ?_
  refine thx ?_
  refine thx ?_
  refine ibx ?_
  refine thn ?_
  refine sqH ?_; intro hQ76Q hQ76
  refine s1 hF31 4 (.int .i64 (-1)) ?_; intro a77 hF78; clear hF31
  refine nlH (hQ76 _ _ ?_); clear hQ76 hQ76Q
  refine wp_ret ?_
  refine rt (fn := Try.f66) (v := .int .i64 (-1)) hF78 (re1 hF78 (fn := Try.f66) rfl (by kernel_rfl)) ?_
  exact ⟨-1, rfl, hp75, hM27.below⟩

set_option maxRecDepth 100000 in
theorem scontains_walk (u0 : List Int) (u1 : Int) (ao1 : Option Addr) (cap2 : Nat) (Z : Fz) (w : World) (hs3 : SlR (tyInt .i64) Z ao1 cap2 u0) (hZ : Z.on w) {K : Bool → Prop} (hp : scontains_vc u0 u1 K) : Calls Try.prog 54 #[.slice ao1 u0.length cap2, .int .i64 u1] w fun e w' => ∃ r : Bool, e = .returned (.bool r) ∧ K r ∧ Below w.heap.size w w' := by
 refine enter0 Try.func54 rfl rfl (by kernel_rfl) ?_; intro a0 hF0; have hM0 := Mem.start w Z hZ; have hle0 := Fz.le.refl Z
 have hp4 := hp (hs3.small); clear hp
 refine sqH ?_; intro hQ5Q hQ5
 refine s1 hF0 4 (.bool false) ?_; intro a6 hF7; clear hF0
 refine nlH (hQ5 _ _ ?_); clear hQ5 hQ5Q
 refine sqH ?_; intro hQ8Q hQ8
 refine s1 hF7 5 (.slice ao1 u0.length cap2) ?_; intro a9 hF10; clear hF7
 refine s1 hF10 6 (.int .i64 u1) ?_; intro a11 hF12; clear hF10
 refine cl hF12 66 #[.slice ao1 u0.length cap2, .int .i64 u1] (nog rfl _) rfl (by kernel_rfl) (by kernel_rfl) ?_
 refine (sindex_walk u0 u1 ao1 cap2 _ _ hs3 hM0.fz hp4).mono ?_; rintro _ wd14 ⟨r13, rfl, hp18, hb⟩; refine ⟨_, rfl, ?_⟩; intro a15 hF16; have hM17 := hM0.call hb; clear hb hM0 hF12
 refine s1 hF16 8 (.bool (decide (r13 ≥ 0))) ?_; intro a19 hF20; clear hF16
 refine s1 hF20 4 (.bool (decide (r13 ≥ 0))) ?_; intro a21 hF22; clear hF20
 refine nlH (hQ8 _ _ ?_); clear hQ8 hQ8Q
 refine wp_ret ?_
 refine rt (fn := Try.f54) (v := .bool (decide (r13 ≥ 0))) hF22 (re1 hF22 (fn := Try.f54) rfl (by kernel_rfl)) ?_
 exact ⟨decide (r13 ≥ 0), rfl, hp18, hM17.below⟩

set_option maxRecDepth 100000 in
theorem fsizes_walk   (Z : Fz) (w : World)  (hZ : Z.on w) {K : (List Int) → Prop} (hp : fsizes_vc  K) : Calls Try.prog 64 #[] w fun e w' => ∃ (r : (List Int)) (ao1001 : Option Addr) (cap1002 : Nat) (Z' : Fz), e = .returned (.slice ao1001 r.length cap1002) ∧ K r ∧ Mem w.heap.size [] w Z [.own (tyInt .i64) 3 ao1001 cap1002 r] Z' w' := by
 refine enter0 Try.func64 rfl rfl (by kernel_rfl) ?_; intro a0 hF0; have hM0 := Mem.start w Z hZ; have hle0 := Fz.le.refl Z
 refine sqH ?_; intro hQ1Q hQ1
 refine s1 hF0 0 (.slice none 0 0) ?_; intro a2 hF3; clear hF0
 refine nlH (hQ1 _ _ ?_); clear hQ1 hQ1Q
 refine sqH ?_; intro hQ4Q hQ4
 refine sn hF3 hM0 (fun b => .slice (some ⟨b, 0, none⟩) 16 16) [.int .i64 0, .int .i64 1, .int .i64 2, .int .i64 3, .int .i64 4, .int .i64 5, .int .i64 6, .int .i64 7, .int .i64 8, .int .i64 12, .int .i64 16, .int .i64 20, .int .i64 24, .int .i64 32, .int .i64 48, .int .i64 64] 3 (nog rfl _) rfl (by kernel_rfl) (by kernel_rfl) ?_; intro b5 a6 wd8 hF7 hM9; clear hF3 hM0
 refine s1 hF7 0 (.slice (some ⟨b5, 0, none⟩) 16 16) ?_; intro a10 hF11; clear hF7
 refine nlH (hQ4 _ _ ?_); clear hQ4 hQ4Q
 refine wp_ret ?_
 have hM12 : Mem w.heap.size [] w Z [.own (tyInt .i64) 3 (some ⟨b5, 0, none⟩) 16 ([0, 1, 2, 3, 4, 5, 6, 7, 8, 12, 16, 20, 24, 32, 48, 64] : List Int)] Z wd8 := hM9.rowOwn (T := (tyInt .i64)) (xs := ([0, 1, 2, 3, 4, 5, 6, 7, 8, 12, 16, 20, 24, 32, 48, 64] : List Int)) 0 rfl (by decide) (by decide) ((RepAll.one (T := (tyInt .i64)) (x := 0) rfl).append ((RepAll.one (T := (tyInt .i64)) (x := 1) rfl).append ((RepAll.one (T := (tyInt .i64)) (x := 2) rfl).append ((RepAll.one (T := (tyInt .i64)) (x := 3) rfl).append ((RepAll.one (T := (tyInt .i64)) (x := 4) rfl).append ((RepAll.one (T := (tyInt .i64)) (x := 5) rfl).append ((RepAll.one (T := (tyInt .i64)) (x := 6) rfl).append ((RepAll.one (T := (tyInt .i64)) (x := 7) rfl).append ((RepAll.one (T := (tyInt .i64)) (x := 8) rfl).append ((RepAll.one (T := (tyInt .i64)) (x := 12) rfl).append ((RepAll.one (T := (tyInt .i64)) (x := 16) rfl).append ((RepAll.one (T := (tyInt .i64)) (x := 20) rfl).append ((RepAll.one (T := (tyInt .i64)) (x := 24) rfl).append ((RepAll.one (T := (tyInt .i64)) (x := 32) rfl).append ((RepAll.one (T := (tyInt .i64)) (x := 48) rfl).append (RepAll.one (T := (tyInt .i64)) (x := 64) rfl)))))))))))))))); clear hM9
 refine rt (fn := Try.f64) (v := .slice (some ⟨b5, 0, none⟩) ([0, 1, 2, 3, 4, 5, 6, 7, 8, 12, 16, 20, 24, 32, 48, 64] : List Int).length 16) hF11 (re1 hF11 (fn := Try.f64) rfl (by kernel_rfl)) ?_
 exact ⟨([0, 1, 2, 3, 4, 5, 6, 7, 8, 12, 16, 20, 24, 32, 48, 64] : List Int), (some ⟨b5, 0, none⟩), 16, Z, rfl, hp, hM12.keep (List.Sublist.cons_cons _ (List.Sublist.slnil))⟩
theorem fsizes_fun   (Z : Fz) (w : World)  (hZ : Z.on w) : Calls Try.prog 64 #[] w fun e w' => ∃ (ao1001 : Option Addr) (cap1002 : Nat) (Z' : Fz), e = .returned (.slice ao1001 fsizes.length cap1002) ∧ Mem w.heap.size [] w Z [.own (tyInt .i64) 3 ao1001 cap1002 fsizes] Z' w' :=
  (fsizes_walk   Z w  hZ (fsizes_ok )).mono fun _ _ ⟨r, h0, h1, h2, he, hk, hm⟩ => by subst hk; exact ⟨h0, h1, h2, he, hm⟩

set_option maxRecDepth 100000 in
theorem rsizes_walk   (Z : Fz) (w : World)  (hZ : Z.on w) {K : (List Int) → Prop} (hp : rsizes_vc  K) : Calls Try.prog 55 #[] w fun e w' => ∃ (r : (List Int)) (ao1001 : Option Addr) (cap1002 : Nat) (Z' : Fz), e = .returned (.slice ao1001 r.length cap1002) ∧ K r ∧ Mem w.heap.size [] w Z [.own (tyInt .i64) 3 ao1001 cap1002 r] Z' w' := by
 refine enter0 Try.func55 rfl rfl (by kernel_rfl) ?_; intro a0 hF0; have hM0 := Mem.start w Z hZ; have hle0 := Fz.le.refl Z
 refine sqH ?_; intro hQ1Q hQ1
 refine s1 hF0 0 (.slice none 0 0) ?_; intro a2 hF3; clear hF0
 refine nlH (hQ1 _ _ ?_); clear hQ1 hQ1Q
 refine sqH ?_; intro hQ4Q hQ4
 refine sn hF3 hM0 (fun b => .slice (some ⟨b, 0, none⟩) 16 16) [.int .i64 0, .int .i64 1, .int .i64 2, .int .i64 3, .int .i64 4, .int .i64 5, .int .i64 6, .int .i64 7, .int .i64 8, .int .i64 12, .int .i64 16, .int .i64 20, .int .i64 24, .int .i64 32, .int .i64 48, .int .i64 64] 3 (nog rfl _) rfl (by kernel_rfl) (by kernel_rfl) ?_; intro b5 a6 wd8 hF7 hM9; clear hF3 hM0
 refine s1 hF7 0 (.slice (some ⟨b5, 0, none⟩) 16 16) ?_; intro a10 hF11; clear hF7
 refine nlH (hQ4 _ _ ?_); clear hQ4 hQ4Q
 refine wp_ret ?_
 have hM12 : Mem w.heap.size [] w Z [.own (tyInt .i64) 3 (some ⟨b5, 0, none⟩) 16 ([0, 1, 2, 3, 4, 5, 6, 7, 8, 12, 16, 20, 24, 32, 48, 64] : List Int)] Z wd8 := hM9.rowOwn (T := (tyInt .i64)) (xs := ([0, 1, 2, 3, 4, 5, 6, 7, 8, 12, 16, 20, 24, 32, 48, 64] : List Int)) 0 rfl (by decide) (by decide) ((RepAll.one (T := (tyInt .i64)) (x := 0) rfl).append ((RepAll.one (T := (tyInt .i64)) (x := 1) rfl).append ((RepAll.one (T := (tyInt .i64)) (x := 2) rfl).append ((RepAll.one (T := (tyInt .i64)) (x := 3) rfl).append ((RepAll.one (T := (tyInt .i64)) (x := 4) rfl).append ((RepAll.one (T := (tyInt .i64)) (x := 5) rfl).append ((RepAll.one (T := (tyInt .i64)) (x := 6) rfl).append ((RepAll.one (T := (tyInt .i64)) (x := 7) rfl).append ((RepAll.one (T := (tyInt .i64)) (x := 8) rfl).append ((RepAll.one (T := (tyInt .i64)) (x := 12) rfl).append ((RepAll.one (T := (tyInt .i64)) (x := 16) rfl).append ((RepAll.one (T := (tyInt .i64)) (x := 20) rfl).append ((RepAll.one (T := (tyInt .i64)) (x := 24) rfl).append ((RepAll.one (T := (tyInt .i64)) (x := 32) rfl).append ((RepAll.one (T := (tyInt .i64)) (x := 48) rfl).append (RepAll.one (T := (tyInt .i64)) (x := 64) rfl)))))))))))))))); clear hM9
 refine rt (fn := Try.f55) (v := .slice (some ⟨b5, 0, none⟩) ([0, 1, 2, 3, 4, 5, 6, 7, 8, 12, 16, 20, 24, 32, 48, 64] : List Int).length 16) hF11 (re1 hF11 (fn := Try.f55) rfl (by kernel_rfl)) ?_
 exact ⟨([0, 1, 2, 3, 4, 5, 6, 7, 8, 12, 16, 20, 24, 32, 48, 64] : List Int), (some ⟨b5, 0, none⟩), 16, Z, rfl, hp, hM12.keep (List.Sublist.cons_cons _ (List.Sublist.slnil))⟩
theorem rsizes_fun   (Z : Fz) (w : World)  (hZ : Z.on w) : Calls Try.prog 55 #[] w fun e w' => ∃ (ao1001 : Option Addr) (cap1002 : Nat) (Z' : Fz), e = .returned (.slice ao1001 rsizes.length cap1002) ∧ Mem w.heap.size [] w Z [.own (tyInt .i64) 3 ao1001 cap1002 rsizes] Z' w' :=
  (rsizes_walk   Z w  hZ (rsizes_ok )).mono fun _ _ ⟨r, h0, h1, h2, he, hk, hm⟩ => by subst hk; exact ⟨h0, h1, h2, he, hm⟩

set_option maxRecDepth 100000 in
theorem sequal_walk (u0 : List Int) (u1 : List Int) (ao1 : Option Addr) (cap2 : Nat) (ao4 : Option Addr) (cap5 : Nat) (Z : Fz) (w : World) (hs3 : SlR (tyInt .i64) Z ao1 cap2 u0) (hs6 : SlR (tyInt .i64) Z ao4 cap5 u1) (hZ : Z.on w) {K : Bool → Prop} (hp : sequal_vc u0 u1 K) : Calls Try.prog 28 #[.slice ao1 u0.length cap2, .slice ao4 u1.length cap5] w fun e w' => ∃ r : Bool, e = .returned (.bool r) ∧ K r ∧ Below w.heap.size w w' := by
 refine enter0 Try.func28 rfl rfl (by kernel_rfl) ?_; intro a0 hF0; have hM0 := Mem.start w Z hZ; have hle0 := Fz.le.refl Z
 have hp7 := hp (hs3.small); clear hp
 have hp8 := hp7 (hs6.small); clear hp7
 refine sqH ?_; intro hQ9Q hQ9
 refine s1 hF0 4 (.bool false) ?_; intro a10 hF11; clear hF0
 refine nlH (hQ9 _ _ ?_); clear hQ9 hQ9Q
 refine wp_seq ?_
 refine sqH ?_; intro hQ12Q hQ12
 refine s1 hF11 6 (.slice ao1 u0.length cap2) ?_; intro a13 hF14; clear hF11
 refine s1 hF14 7 (.int .i64 (u0.length : Int)) ?_; intro a15 hF16; clear hF14
 refine s1 hF16 8 (.slice ao4 u1.length cap5) ?_; intro a17 hF18; clear hF16
 refine s1 hF18 9 (.int .i64 (u1.length : Int)) ?_; intro a19 hF20; clear hF18
 refine s1 hF20 10 (.bool ((u0.length : Int) != (u1.length : Int))) ?_; intro a21 hF22; clear hF20
 refine nlH (hQ12 _ _ ?_); clear hQ12 hQ12Q
 refine cd hF22 (t := (u0.length : Int) != (u1.length : Int)) (by kernel_rfl) (fun hb23 => ?_) (fun hb23 => ?_)
 · -- yes
  have hp24 := hp8.1 hb23; clear hp8
  refine sqH ?_; intro hQ25Q hQ25
  refine s1 hF22 4 (.bool false) ?_; intro a26 hF27; clear hF22
  refine nlH (hQ25 _ _ ?_); clear hQ25 hQ25Q
  refine wp_ret ?_
  refine thr ?_
  refine rt (fn := Try.f28) (v := .bool false) hF27 (re1 hF27 (fn := Try.f28) rfl (by kernel_rfl)) ?_
  exact ⟨false, rfl, hp24, hM0.below⟩
 · -- no
  have hp28 := hp8.2 hb23; clear hp8
  refine wp_skip ?_
  refine thn ?_
  refine wp_seq ?_
  refine sqH ?_; intro hQ29Q hQ29
  refine s1 hF22 11 (.slice ao1 u0.length cap2) ?_; intro a30 hF31; clear hF22
  refine s1 hF31 12 (.int .i64 (u0.length : Int)) ?_; intro a32 hF33; clear hF31
  refine s1 hF33 13 (.int .i64 0) ?_; intro a34 hF35; clear hF33
  refine nlH (hQ29 _ _ ?_); clear hQ29 hQ29Q
  refine wp_block ?_
  have hF36 : Fr 26 [] [⟨0, [], .slice ao1 u0.length cap2⟩, ⟨1, [], .slice ao4 u1.length cap5⟩, ⟨12, [], .int .i64 (u0.length : Int)⟩, ⟨13, [], .int .i64 0⟩] a34 := hF35.region (by kernel_rfl) (by kernel_rfl); clear hF35
  have hF38 : Fr 26 [] [⟨0, [], .slice ao1 u0.length cap2⟩, ⟨1, [], .slice ao4 u1.length cap5⟩, ⟨12, [], .int .i64 (u0.length : Int)⟩, ⟨13, [], .int .i64 0⟩] a34 := hF36.region (by kernel_rfl) (by kernel_rfl); clear hF36
  obtain ⟨inv37, mu37, hI41, hr40⟩ := hp28
  refine lp (ι := Int) (fun (s : Int) => [⟨0, [], .slice ao1 u0.length cap2⟩, ⟨1, [], .slice ao4 u1.length cap5⟩, ⟨12, [], .int .i64 (u0.length : Int)⟩, ⟨13, [], .int .i64 s⟩]) (fun (s : Int) => []) (fun (s : Int) => Z) (fun (s : Int) => inv37 s) (fun (s : Int) => mu37 s) 0 hI41 (by exact hF38.region (by kernel_rfl) (by kernel_rfl)) (by exact hM0) ?_
  rintro x13 hI39 a43 wd44 hF45 hM46
  have hF47 : Fr 26 [] [⟨0, [], .slice ao1 u0.length cap2⟩, ⟨1, [], .slice ao4 u1.length cap5⟩, ⟨12, [], .int .i64 (u0.length : Int)⟩, ⟨13, [], .int .i64 x13⟩] a43 := hF45; clear hF45 hF38
  have hM48 : Mem w.heap.size [] w Z [] Z wd44 := hM46; clear hM46 hM0
  have hp49 := hr40 x13 hI39
  refine sqH ?_; intro hQ50Q hQ50
  refine s1 hF47 14 (.bool (decide (x13 < (u0.length : Int)))) ?_; intro a51 hF52; clear hF47
  refine nlH (hQ50 _ _ ?_); clear hQ50 hQ50Q
  refine wp_seq ?_
  refine cd hF52 (t := decide (x13 < (u0.length : Int))) (by kernel_rfl) (fun hb53 => ?_) (fun hb53 => ?_)
  · -- yes
   have hp54 := hp49.1 hb53; clear hp49
   refine wp_skip ?_
   refine thn ?_
   refine wp_seq ?_
   refine wp_block ?_
   refine sqH ?_; intro hQ55Q hQ55
   refine s1 hF52 15 (.int .i64 x13) ?_; intro a56 hF57; clear hF52
   refine s1 hF57 5 (.int .i64 x13) ?_; intro a58 hF59; clear hF57
   refine nlH (hQ55 _ _ ?_); clear hQ55 hQ55Q
   have hF60 : Fr 26 [] [⟨0, [], .slice ao1 u0.length cap2⟩, ⟨1, [], .slice ao4 u1.length cap5⟩, ⟨5, [], .int .i64 x13⟩, ⟨12, [], .int .i64 (u0.length : Int)⟩, ⟨13, [], .int .i64 x13⟩] a58 := hF59.region (by kernel_rfl) (by kernel_rfl); clear hF59
   refine sqQH mixed (by kernel_rfl) hM48 ?_; intro hQ61Q hQ61
   refine q1 hF60 16 (.slice ao1 u0.length cap2) ?_; intro a63 hF64; clear hF60
   refine q1 hF64 17 (.int .i64 x13) ?_; intro a66 hF67; clear hF64
   have hc69 := hp54.1; have hp70 := hp54.2; clear hp54
   refine qix hF67 (T := (tyInt .i64)) (xs := u0) hs3 x13 hc69 (k := .i64) (e := 3) (bytes := 8) (nog rfl _) rfl (by kernel_rfl) rfl (by kernel_rfl) (by kernel_rfl) (by kernel_rfl) ?_; intro b71 off72 cs73 q74 a78 hq75 hP76 hT77 hF79; clear hF67
   have hp80 := hp70 q74 hq75; clear hp70
   obtain rfl : cs73 = ([.int .i64 q74] : List Value) := hT77
   refine qst hF79 (.int .i64 q74) (nog rfl _) rfl (by kernel_rfl) (fun v81 hC => lz hF79 hC.fz hP76 0 (g := []) rfl (by kernel_rfl) (by kernel_rfl) (by kernel_rfl) rfl) ?_; intro a82 hF83; clear hF79
   refine q1 hF83 20 (.slice ao4 u1.length cap5) ?_; intro a85 hF86; clear hF83
   refine q1 hF86 21 (.int .i64 x13) ?_; intro a88 hF89; clear hF86
   have hc91 := hp80.1; have hp92 := hp80.2; clear hp80
   refine qix hF89 (T := (tyInt .i64)) (xs := u1) hs6 x13 hc91 (k := .i64) (e := 3) (bytes := 8) (nog rfl _) rfl (by kernel_rfl) rfl (by kernel_rfl) (by kernel_rfl) (by kernel_rfl) ?_; intro b93 off94 cs95 q96 a100 hq97 hP98 hT99 hF101; clear hF89
   have hp102 := hp92 q96 hq97; clear hp92
   obtain rfl : cs95 = ([.int .i64 q96] : List Value) := hT99
   refine qst hF101 (.int .i64 q96) (nog rfl _) rfl (by kernel_rfl) (fun v103 hC => lz hF101 hC.fz hP98 0 (g := []) rfl (by kernel_rfl) (by kernel_rfl) (by kernel_rfl) rfl) ?_; intro a104 hF105; clear hF101
   refine q1 hF105 24 (.bool (q74 != q96)) ?_; intro a107 hF108; clear hF105
   refine qnl (hQ61 _ ?_); clear hQ61 hQ61Q; intro wd109 hM110; clear hM48
   refine cd hF108 (t := q74 != q96) (by kernel_rfl) (fun hb111 => ?_) (fun hb111 => ?_)
   · -- yes
    have hp112 := hp102.1 hb111; clear hp102
    refine sqH ?_; intro hQ113Q hQ113
    refine s1 hF108 4 (.bool false) ?_; intro a114 hF115; clear hF108
    refine nlH (hQ113 _ _ ?_); clear hQ113 hQ113Q
    refine wp_ret ?_
    refine ibr ?_
    refine thr ?_
    refine thr ?_
    refine ibr ?_
    refine thr ?_
    refine rt (fn := Try.f28) (v := .bool false) hF115 (re1 hF115 (fn := Try.f28) rfl (by kernel_rfl)) ?_
    exact ⟨false, rfl, hp112, hM110.below⟩
   · -- no
    have hp116 := hp102.2 hb111; clear hp102
    refine wp_skip ?_
    refine ibn ?_
    refine thn ?_
    refine rgH ?_; intro hQ117Q hQ117
    refine s1 hF108 25 (.int .i64 (w64 (x13 + 1))) ?_; intro a118 hF119; clear hF108
    refine s1 hF119 13 (.int .i64 (w64 (x13 + 1))) ?_; intro a120 hF121; clear hF119
    refine nlH (hQ117 _ _ ?_); clear hQ117 hQ117Q
    refine rd ?_
    exact ⟨w64 (x13 + 1), hp116.1, hp116.2, (hF121.region (by kernel_rfl) (by kernel_rfl)).anyβ _ (by kernel_rfl), hM110.keep (List.Sublist.slnil)⟩
  · -- no
   have hp122 := hp49.2 hb53; clear hp49
   refine wp_exit ?_
   refine thx ?_
   refine thx ?_
   refine ibx ?_
   refine thn ?_
   refine sqH ?_; intro hQ123Q hQ123
   refine s1 hF52 4 (.bool true) ?_; intro a124 hF125; clear hF52
   refine nlH (hQ123 _ _ ?_); clear hQ123 hQ123Q
   refine wp_ret ?_
   refine rt (fn := Try.f28) (v := .bool true) hF125 (re1 hF125 (fn := Try.f28) rfl (by kernel_rfl)) ?_
   exact ⟨true, rfl, hp122, hM48.below⟩

set_option maxRecDepth 100000 in
theorem lets1_walk (u0 : Filter) (u1 : Frame) (cb4 co5 : Nat) (ao1 : Option Addr) (cap2 : Nat) (Z : Fz) (w : World) (hP6 : PtR Z cb4 co5 [.int .i64 u1.ID, .bool u1.Long, .bool u1.Fast, .bool u1.Remote, .int .i64 u1.Size, .slice ao1 u1.Data.length cap2]) (hs3 : SlR (tyInt .u8) Z ao1 cap2 u1.Data) (hZ : Z.on w) {K : Bool → Prop} (hp : lets1_vc u0 u1 K) : Calls Try.prog 65 #[.agg #[.int .i64 u0.Want, .int .i64 u0.Mask, .bool u0.Long], .pointer (some ⟨cb4, co5, none⟩)] w fun e w' => ∃ r : Bool, e = .returned (.bool r) ∧ K r ∧ Below w.heap.size w w' := by
 refine enter0 Try.func65 rfl rfl (by kernel_rfl) ?_; intro a0 hF0; have hM0 := Mem.start w Z hZ; have hle0 := Fz.le.refl Z
 refine sqH ?_; intro hQ7Q hQ7
 refine sn hF0 hM0 (fun b => .pointer (some ⟨b, 0, none⟩)) [.int .i64 u0.Want, .int .i64 u0.Mask, .bool u0.Long] 28 (nog rfl _) rfl (by kernel_rfl) (by kernel_rfl) ?_; intro b8 a9 wd11 hF10 hM12; clear hF0 hM0
 refine s1 hF10 3 (.bool false) ?_; intro a13 hF14; clear hF10
 refine nlH (hQ7 _ _ ?_); clear hQ7 hQ7Q
 refine sqH ?_; intro hQ15Q hQ15
 refine s1 hF14 4 (.pointer (some ⟨b8, 2, none⟩)) ?_; intro a16 hF17; clear hF14
 refine l1 hF17 hM12 5 0 2 (.bool u0.Long) rfl rfl ?_; intro a18 hF19; clear hF17
 refine s1 hF19 6 (.pointer (some ⟨cb4, co5 + 1, none⟩)) ?_; intro a20 hF21; clear hF19
 refine z1 hF21 hM12 7 hP6 1 (.bool u1.Long) rfl ?_; intro a22 hF23; clear hF21
 refine s1 hF23 8 (.bool (u0.Long == u1.Long)) ?_; intro a24 hF25; clear hF23
 refine s1 hF25 9 (.bool (u0.Long == u1.Long)) ?_; intro a26 hF27; clear hF25
 have hF28 := hF27.atom ((u0.Long == u1.Long) == true) (by kernel_rfl); clear hF27
 refine gp hF28 10 0 [] (u0.Long == u1.Long) (.pointer (some ⟨cb4, co5, none⟩)) rfl rfl ?_; intro a29 hF30; clear hF28
 refine gd hF30 (.int .i64 u1.ID) (m := 0) (cj := []) (bj := u0.Long == u1.Long) rfl rfl (by kernel_rfl) rfl (by kernel_rfl) (by kernel_rfl) (by kernel_rfl) (fun hg => lz hF30 hM12.fz hP6 0 (g := [0]) rfl (by kernel_rfl) (by kernel_rfl) (by kernel_rfl) hg) ?_; intro a31 hF32; clear hF30
 refine gp hF32 12 0 [] (u0.Long == u1.Long) (.pointer (some ⟨b8, 0, none⟩)) rfl rfl ?_; intro a33 hF34; clear hF32
 refine gd hF34 (.int .i64 u0.Want) (m := 0) (cj := []) (bj := u0.Long == u1.Long) rfl rfl (by kernel_rfl) rfl (by kernel_rfl) (by kernel_rfl) (by kernel_rfl) (fun hg => ld hF34 hM12 0 (g := [0]) (b := b8) (off := 0) (cs := [.int .i64 u0.Want, .int .i64 u0.Mask, .bool u0.Long]) (ty := 28) rfl (by kernel_rfl) (by kernel_rfl) (by kernel_rfl) (by kernel_rfl) hg) ?_; intro a35 hF36; clear hF34
 refine gp hF36 14 0 [] (u0.Long == u1.Long) (.int .i64 (bXor .i64 u1.ID u0.Want)) rfl rfl ?_; intro a37 hF38; clear hF36
 refine gp hF38 15 0 [] (u0.Long == u1.Long) (.pointer (some ⟨b8, 1, none⟩)) rfl rfl ?_; intro a39 hF40; clear hF38
 refine gd hF40 (.int .i64 u0.Mask) (m := 0) (cj := []) (bj := u0.Long == u1.Long) rfl rfl (by kernel_rfl) rfl (by kernel_rfl) (by kernel_rfl) (by kernel_rfl) (fun hg => ld hF40 hM12 0 (g := [0]) (b := b8) (off := 1) (cs := [.int .i64 u0.Want, .int .i64 u0.Mask, .bool u0.Long]) (ty := 28) rfl (by kernel_rfl) (by kernel_rfl) (by kernel_rfl) (by kernel_rfl) hg) ?_; intro a41 hF42; clear hF40
 refine gp hF42 17 0 [] (u0.Long == u1.Long) (.int .i64 (bAnd .i64 (bXor .i64 u1.ID u0.Want) u0.Mask)) rfl rfl ?_; intro a43 hF44; clear hF42
 refine gp hF44 18 0 [] (u0.Long == u1.Long) (.bool ((bAnd .i64 (bXor .i64 u1.ID u0.Want) u0.Mask) == 0)) rfl rfl ?_; intro a45 hF46; clear hF44
 refine st hF46 (.bool ((u0.Long == u1.Long) && ((bAnd .i64 (bXor .i64 u1.ID u0.Want) u0.Mask) == 0))) (nog rfl _) rfl (by kernel_rfl) (pk_and hF46 (g := []) (m := 0) (b := u0.Long == u1.Long) (v := (bAnd .i64 (bXor .i64 u1.ID u0.Want) u0.Mask) == 0) rfl (by kernel_rfl) (by kernel_rfl) (by kernel_rfl) rfl) ?_; intro a47 hF48; clear hF46
 refine s1 hF48 3 (.bool ((u0.Long == u1.Long) && ((bAnd .i64 (bXor .i64 u1.ID u0.Want) u0.Mask) == 0))) ?_; intro a49 hF50; clear hF48
 refine nlH (hQ15 _ _ ?_); clear hQ15 hQ15Q
 refine wp_ret ?_
 refine rt (fn := Try.f65) (v := .bool ((u0.Long == u1.Long) && ((bAnd .i64 (bXor .i64 u1.ID u0.Want) u0.Mask) == 0))) hF50 (re1 hF50 (fn := Try.f65) rfl (by kernel_rfl)) ?_
 exact ⟨(u0.Long == u1.Long) && ((bAnd .i64 (bXor .i64 u1.ID u0.Want) u0.Mask) == 0), rfl, hp, hM12.below⟩
theorem lets1_fun (u0 : Filter) (u1 : Frame) (cb4 co5 : Nat) (ao1 : Option Addr) (cap2 : Nat) (Z : Fz) (w : World) (hP6 : PtR Z cb4 co5 [.int .i64 u1.ID, .bool u1.Long, .bool u1.Fast, .bool u1.Remote, .int .i64 u1.Size, .slice ao1 u1.Data.length cap2]) (hs3 : SlR (tyInt .u8) Z ao1 cap2 u1.Data) (hZ : Z.on w) : Calls Try.prog 65 #[.agg #[.int .i64 u0.Want, .int .i64 u0.Mask, .bool u0.Long], .pointer (some ⟨cb4, co5, none⟩)] w fun e w' => e = .returned (.bool (lets1 u0 u1)) ∧ Below w.heap.size w w' :=
  (lets1_walk u0 u1 cb4 co5 ao1 cap2 Z w hP6 hs3 hZ (lets1_ok u0 u1)).mono fun _ _ ⟨r, he, hk, hb⟩ => ⟨by subst hk; exact he, hb⟩

set_option maxRecDepth 100000 in
theorem fc1_walk (u0 : Filter) (u1 : Int) (cb1 co2 : Nat) (Z : Fz) (w : World) (hP3 : PtR Z cb1 co2 [.int .i64 u1]) (hZ : Z.on w) {K : Bool → Prop} (hp : fc1_vc u0 u1 K) : Calls Try.prog 21 #[.agg #[.int .i64 u0.Want, .int .i64 u0.Mask, .bool u0.Long], .pointer (some ⟨cb1, co2, none⟩)] w fun e w' => ∃ r : Bool, e = .returned (.bool r) ∧ K r ∧ Below w.heap.size w w' := by
 refine enter0 Try.func21 rfl rfl (by kernel_rfl) ?_; intro a0 hF0; have hM0 := Mem.start w Z hZ; have hle0 := Fz.le.refl Z
 refine sqH ?_; intro hQ4Q hQ4
 refine sn hF0 hM0 (fun b => .pointer (some ⟨b, 0, none⟩)) [.int .i64 u0.Want, .int .i64 u0.Mask, .bool u0.Long] 28 (nog rfl _) rfl (by kernel_rfl) (by kernel_rfl) ?_; intro b5 a6 wd8 hF7 hM9; clear hF0 hM0
 refine s1 hF7 3 (.bool false) ?_; intro a10 hF11; clear hF7
 refine nlH (hQ4 _ _ ?_); clear hQ4 hQ4Q
 refine sqH ?_; intro hQ12Q hQ12
 refine l2 hF11 hM9 4 0 0 3 [.int .i64 u0.Want, .int .i64 u0.Mask, .bool u0.Long] rfl rfl ?_; intro a13 hF14; clear hF11
 refine z1 hF14 hM9 5 hP3 0 (.int .i64 u1) rfl ?_; intro a15 hF16; clear hF14
 refine s1 hF16 6 (.agg #[.int .i64 u1, .bool false, .bool false, .bool false, .int .i64 0, .slice none 0 0]) ?_; intro a17 hF18; clear hF16
 refine fcl hF18 hM9 (.bool (letsin u0 (⟨u1, false, false, false, 0, []⟩ : Frame))) 22 #[.agg #[.int .i64 u0.Want, .int .i64 u0.Mask, .bool u0.Long], .agg #[.int .i64 u1, .bool false, .bool false, .bool false, .int .i64 0, .slice none 0 0]] (nog rfl _) rfl (by kernel_rfl) (fun _ => by kernel_rfl) (letsin_fun u0 (⟨u1, false, false, false, 0, []⟩ : Frame) none 0 _ _ (SlR.nil _ _) hM9.fz) ?_; intro a19 wd21 hF20 hM22; clear hF18 hM9
 refine s1 hF20 3 (.bool (letsin u0 (⟨u1, false, false, false, 0, []⟩ : Frame))) ?_; intro a23 hF24; clear hF20
 refine nlH (hQ12 _ _ ?_); clear hQ12 hQ12Q
 refine wp_ret ?_
 refine rt (fn := Try.f21) (v := .bool (letsin u0 (⟨u1, false, false, false, 0, []⟩ : Frame))) hF24 (re1 hF24 (fn := Try.f21) rfl (by kernel_rfl)) ?_
 exact ⟨(letsin u0 (⟨u1, false, false, false, 0, []⟩ : Frame)), rfl, hp, hM22.below⟩
theorem fc1_fun (u0 : Filter) (u1 : Int) (cb1 co2 : Nat) (Z : Fz) (w : World) (hP3 : PtR Z cb1 co2 [.int .i64 u1]) (hZ : Z.on w) : Calls Try.prog 21 #[.agg #[.int .i64 u0.Want, .int .i64 u0.Mask, .bool u0.Long], .pointer (some ⟨cb1, co2, none⟩)] w fun e w' => e = .returned (.bool (fc1 u0 u1)) ∧ Below w.heap.size w w' :=
  (fc1_walk u0 u1 cb1 co2 Z w hP3 hZ (fc1_ok u0 u1)).mono fun _ _ ⟨r, he, hk, hb⟩ => ⟨by subst hk; exact he, hb⟩

set_option maxRecDepth 100000 in
theorem findexf_walk (u0 : List Filter) (u1 : Filter → Bool) (ao1 : Option Addr) (cap2 : Nat) (fid4 : Nat) (caps5 : Array Value) (Z : Fz) (w : World) (hs3 : SlR tyFilter Z ao1 cap2 u0) (hf6 : ∀ (Z1 : Fz) (w1 : World), Z.le Z1 → Z1.on w1 → ∀ (x0 : Filter), Calls Try.prog fid4 (#[.agg #[.int .i64 x0.Want, .int .i64 x0.Mask, .bool x0.Long]] ++ caps5) w1 fun e w2 => e = .returned (.bool (u1 x0)) ∧ Below w1.heap.size w1 w2) (hg7 : ∀ x w, Sem.run Try.prog (callFunc fid4 x) w = .ok (.enter fid4 x) w) (hZ : Z.on w) {K : Int → Prop} (hp : findexf_vc u0 u1 K) : Calls Try.prog 50 #[.slice ao1 u0.length cap2, .func (.func fid4) #[] caps5] w fun e w' => ∃ r : Int, e = .returned (.int .i64 r) ∧ K r ∧ Below w.heap.size w w' := by
 refine enter0 Try.func50 rfl rfl (by kernel_rfl) ?_; intro a0 hF0; have hM0 := Mem.start w Z hZ; have hle0 := Fz.le.refl Z
 have hp8 := hp (hs3.small); clear hp
 refine sqH ?_; intro hQ9Q hQ9
 refine s1 hF0 4 (.int .i64 0) ?_; intro a10 hF11; clear hF0
 refine nlH (hQ9 _ _ ?_); clear hQ9 hQ9Q
 refine wp_seq ?_
 refine sqH ?_; intro hQ12Q hQ12
 refine s1 hF11 6 (.slice ao1 u0.length cap2) ?_; intro a13 hF14; clear hF11
 refine s1 hF14 7 (.int .i64 (u0.length : Int)) ?_; intro a15 hF16; clear hF14
 refine s1 hF16 8 (.int .i64 0) ?_; intro a17 hF18; clear hF16
 refine nlH (hQ12 _ _ ?_); clear hQ12 hQ12Q
 refine wp_block ?_
 have hF19 : Fr 19 [] [⟨0, [], .slice ao1 u0.length cap2⟩, ⟨1, [], .func (.func fid4) #[] caps5⟩, ⟨7, [], .int .i64 (u0.length : Int)⟩, ⟨8, [], .int .i64 0⟩] a17 := hF18.region (by kernel_rfl) (by kernel_rfl); clear hF18
 have hF21 : Fr 19 [] [⟨0, [], .slice ao1 u0.length cap2⟩, ⟨1, [], .func (.func fid4) #[] caps5⟩, ⟨7, [], .int .i64 (u0.length : Int)⟩, ⟨8, [], .int .i64 0⟩] a17 := hF19.region (by kernel_rfl) (by kernel_rfl); clear hF19
 obtain ⟨inv20, mu20, hI24, hr23⟩ := hp8
 refine lp (ι := Int) (fun (s : Int) => [⟨0, [], .slice ao1 u0.length cap2⟩, ⟨1, [], .func (.func fid4) #[] caps5⟩, ⟨7, [], .int .i64 (u0.length : Int)⟩, ⟨8, [], .int .i64 s⟩]) (fun (s : Int) => []) (fun (s : Int) => Z) (fun (s : Int) => inv20 s) (fun (s : Int) => mu20 s) 0 hI24 (by exact hF21.region (by kernel_rfl) (by kernel_rfl)) (by exact hM0) ?_
 rintro x8 hI22 a26 wd27 hF28 hM29
 have hF30 : Fr 19 [] [⟨0, [], .slice ao1 u0.length cap2⟩, ⟨1, [], .func (.func fid4) #[] caps5⟩, ⟨7, [], .int .i64 (u0.length : Int)⟩, ⟨8, [], .int .i64 x8⟩] a26 := hF28; clear hF28 hF21
 have hM31 : Mem w.heap.size [] w Z [] Z wd27 := hM29; clear hM29 hM0
 have hp32 := hr23 x8 hI22
 refine sqH ?_; intro hQ33Q hQ33
 refine s1 hF30 9 (.bool (decide (x8 < (u0.length : Int)))) ?_; intro a34 hF35; clear hF30
 refine nlH (hQ33 _ _ ?_); clear hQ33 hQ33Q
 refine wp_seq ?_
 refine cd hF35 (t := decide (x8 < (u0.length : Int))) (by kernel_rfl) (fun hb36 => ?_) (fun hb36 => ?_)
 · -- yes
  have hp37 := hp32.1 hb36; clear hp32
  refine wp_skip ?_
  refine thn ?_
  refine wp_seq ?_
  refine wp_block ?_
  refine sqH ?_; intro hQ38Q hQ38
  refine s1 hF35 10 (.int .i64 x8) ?_; intro a39 hF40; clear hF35
  refine s1 hF40 5 (.int .i64 x8) ?_; intro a41 hF42; clear hF40
  refine nlH (hQ38 _ _ ?_); clear hQ38 hQ38Q
  refine sqH ?_; intro hQ43Q hQ43
  refine s1 hF42 11 (.func (.func fid4) #[] caps5) ?_; intro a44 hF45; clear hF42
  refine s1 hF45 12 (.slice ao1 u0.length cap2) ?_; intro a46 hF47; clear hF45
  refine s1 hF47 13 (.int .i64 x8) ?_; intro a48 hF49; clear hF47
  have hc50 := hp37.1; have hp51 := hp37.2; clear hp37
  refine ix hF49 (T := tyFilter) (xs := u0) hs3 x8 hc50 (k := .i64) (e := 28) (bytes := 24) (nog rfl _) rfl (by kernel_rfl) rfl (by kernel_rfl) (by kernel_rfl) (by kernel_rfl) ?_; intro b52 off53 cs54 q55 a59 hq56 hP57 hT58 hF60; clear hF49
  have hp61 := hp51 q55 hq56; clear hp51
  obtain rfl : cs54 = ([.int .i64 q55.Want, .int .i64 q55.Mask, .bool q55.Long] : List Value) := hT58
  refine z2 hF60 hM31 15 hP57 0 3 [.int .i64 q55.Want, .int .i64 q55.Mask, .bool q55.Long] rfl ?_; intro a62 hF63; clear hF60
  have hc68 := hf6 _ _ hle0 hM31.fz q55
  refine fcl hF63 hM31 (.bool (u1 q55)) fid4 (#[.agg #[.int .i64 q55.Want, .int .i64 q55.Mask, .bool q55.Long]] ++ caps5) (nog rfl _) rfl (by kernel_rfl) ?h1 ?h2 ?_
  case h1 => exact fv_run rfl (by kernel_rfl) (by kernel_rfl) hg7
  case h2 => exact hc68
  intro a64 wd66 hF65 hM67; clear hF63 hM31
  refine nlH (hQ43 _ _ ?_); clear hQ43 hQ43Q
  refine cd hF65 (t := (u1 q55)) (by kernel_rfl) (fun hb69 => ?_) (fun hb69 => ?_)
  · -- yes
   have hp70 := hp61.1 hb69; clear hp61
   refine sqH ?_; intro hQ71Q hQ71
   refine s1 hF65 17 (.int .i64 x8) ?_; intro a72 hF73; clear hF65
   refine s1 hF73 4 (.int .i64 x8) ?_; intro a74 hF75; clear hF73
   refine nlH (hQ71 _ _ ?_); clear hQ71 hQ71Q
   refine wp_ret ?_
   refine ibr ?_
   refine thr ?_
   refine thr ?_
   refine ibr ?_
   refine thr ?_
   refine rt (fn := Try.f50) (v := .int .i64 x8) hF75 (re1 hF75 (fn := Try.f50) rfl (by kernel_rfl)) ?_
   exact ⟨x8, rfl, hp70, hM67.below⟩
  · -- no
   have hp76 := hp61.2 hb69; clear hp61
   refine wp_skip ?_
   refine ibn ?_
   refine thn ?_
   refine rgH ?_; intro hQ77Q hQ77
   refine s1 hF65 18 (.int .i64 (w64 (x8 + 1))) ?_; intro a78 hF79; clear hF65
   refine s1 hF79 8 (.int .i64 (w64 (x8 + 1))) ?_; intro a80 hF81; clear hF79
   refine nlH (hQ77 _ _ ?_); clear hQ77 hQ77Q
   refine rd ?_
   exact ⟨w64 (x8 + 1), hp76.1, hp76.2, (hF81.region (by kernel_rfl) (by kernel_rfl)).anyβ _ (by kernel_rfl), hM67.keep (List.Sublist.slnil)⟩
 · -- no
  have hp82 := hp32.2 hb36; clear hp32
  refine wp_exit ?_
  refine thx ?_
  refine thx ?_
  refine ibx ?_
  refine thn ?_
  refine sqH ?_; intro hQ83Q hQ83
  refine s1 hF35 4 (.int .i64 (-1)) ?_; intro a84 hF85; clear hF35
  refine nlH (hQ83 _ _ ?_); clear hQ83 hQ83Q
  refine wp_ret ?_
  refine rt (fn := Try.f50) (v := .int .i64 (-1)) hF85 (re1 hF85 (fn := Try.f50) rfl (by kernel_rfl)) ?_
  exact ⟨-1, rfl, hp82, hM31.below⟩

set_option maxRecDepth 100000 in
theorem fcontf_walk (u0 : List Filter) (u1 : Filter → Bool) (ao1 : Option Addr) (cap2 : Nat) (fid4 : Nat) (caps5 : Array Value) (Z : Fz) (w : World) (hs3 : SlR tyFilter Z ao1 cap2 u0) (hf6 : ∀ (Z1 : Fz) (w1 : World), Z.le Z1 → Z1.on w1 → ∀ (x0 : Filter), Calls Try.prog fid4 (#[.agg #[.int .i64 x0.Want, .int .i64 x0.Mask, .bool x0.Long]] ++ caps5) w1 fun e w2 => e = .returned (.bool (u1 x0)) ∧ Below w1.heap.size w1 w2) (hg7 : ∀ x w, Sem.run Try.prog (callFunc fid4 x) w = .ok (.enter fid4 x) w) (hZ : Z.on w) {K : Bool → Prop} (hp : fcontf_vc u0 u1 K) : Calls Try.prog 20 #[.slice ao1 u0.length cap2, .func (.func fid4) #[] caps5] w fun e w' => ∃ r : Bool, e = .returned (.bool r) ∧ K r ∧ Below w.heap.size w w' := by
 refine enter0 Try.func20 rfl rfl (by kernel_rfl) ?_; intro a0 hF0; have hM0 := Mem.start w Z hZ; have hle0 := Fz.le.refl Z
 have hp8 := hp (hs3.small); clear hp
 refine sqH ?_; intro hQ9Q hQ9
 refine s1 hF0 4 (.bool false) ?_; intro a10 hF11; clear hF0
 refine nlH (hQ9 _ _ ?_); clear hQ9 hQ9Q
 refine sqH ?_; intro hQ12Q hQ12
 refine s1 hF11 5 (.slice ao1 u0.length cap2) ?_; intro a13 hF14; clear hF11
 refine s1 hF14 6 (.func (.func fid4) #[] caps5) ?_; intro a15 hF16; clear hF14
 refine cl hF16 50 #[.slice ao1 u0.length cap2, .func (.func fid4) #[] caps5] (nog rfl _) rfl (by kernel_rfl) (by kernel_rfl) ?_
 refine (findexf_walk u0 u1 ao1 cap2 fid4 caps5 _ _ hs3 (fun Z1 w1 h1 h2 => hf6 Z1 w1 (hle0.trans h1) h2) hg7 hM0.fz hp8).mono ?_; rintro _ wd18 ⟨r17, rfl, hp22, hb⟩; refine ⟨_, rfl, ?_⟩; intro a19 hF20; have hM21 := hM0.call hb; clear hb hM0 hF16
 refine s1 hF20 8 (.bool (decide (r17 ≥ 0))) ?_; intro a23 hF24; clear hF20
 refine s1 hF24 4 (.bool (decide (r17 ≥ 0))) ?_; intro a25 hF26; clear hF24
 refine nlH (hQ12 _ _ ?_); clear hQ12 hQ12Q
 refine wp_ret ?_
 refine rt (fn := Try.f20) (v := .bool (decide (r17 ≥ 0))) hF26 (re1 hF26 (fn := Try.f20) rfl (by kernel_rfl)) ?_
 exact ⟨decide (r17 ≥ 0), rfl, hp22, hM21.below⟩

set_option maxRecDepth 100000 in
theorem fleast_walk (u0 : List Filter) (ao1 : Option Addr) (cap2 : Nat) (Z : Fz) (w : World) (hs3 : SlR tyFilter Z ao1 cap2 u0) (hZ : Z.on w) {K : ((List Filter) × Int) → Prop} (hp : fleast_vc u0 K) : Calls Try.prog 23 #[.slice ao1 u0.length cap2] w fun e w' => ∃ (r : (List Filter) × Int) (ao1001 : Option Addr) (cap1002 : Nat) (Z' : Fz), e = .returned (.tuple #[.slice ao1001 r.1.length cap1002, .int .i64 r.2]) ∧ K r ∧ Mem w.heap.size [] w Z [.own tyFilter 28 ao1001 cap1002 r.1] Z' w' := by
 refine enter0 Try.func23 rfl rfl (by kernel_rfl) ?_; intro a0 hF0; have hM0 := Mem.start w Z hZ; have hle0 := Fz.le.refl Z
 have hp4 := hp (hs3.small); clear hp
 refine sqH ?_; intro hQ5Q hQ5
 refine s1 hF0 2 (.slice none 0 0) ?_; intro a6 hF7; clear hF0
 refine s1 hF7 3 (.int .i64 0) ?_; intro a8 hF9; clear hF7
 refine nlH (hQ5 _ _ ?_); clear hQ5 hQ5Q
 refine wp_seq ?_
 refine sqH ?_; intro hQ10Q hQ10
 refine s1 hF9 11 (.slice ao1 u0.length cap2) ?_; intro a11 hF12; clear hF9
 refine cl hF12 26 #[.slice ao1 u0.length cap2] (nog rfl _) rfl (by kernel_rfl) (by kernel_rfl) ?_
 refine (fcheck_walk u0 ao1 cap2 _ _ hs3 hM0.fz hp4).mono ?_; rintro _ wd14 ⟨r13, rfl, hp18, hb⟩; refine ⟨_, rfl, ?_⟩; intro a15 hF16; have hM17 := hM0.call hb; clear hb hM0 hF12
 refine s1 hF16 4 (.int .i64 r13) ?_; intro a19 hF20; clear hF16
 refine nlH (hQ10 _ _ ?_); clear hQ10 hQ10Q
 refine sqH ?_; intro hQ21Q hQ21
 refine s1 hF20 13 (.int .i64 r13) ?_; intro a22 hF23; clear hF20
 refine s1 hF23 14 (.bool (r13 != 0)) ?_; intro a24 hF25; clear hF23
 refine nlH (hQ21 _ _ ?_); clear hQ21 hQ21Q
 refine cd hF25 (t := r13 != 0) (by kernel_rfl) (fun hb26 => ?_) (fun hb26 => ?_)
 · -- yes
  have hp27 := hp18.1 hb26; clear hp18
  refine sqH ?_; intro hQ28Q hQ28
  refine s1 hF25 15 (.int .i64 r13) ?_; intro a29 hF30; clear hF25
  refine s1 hF30 2 (.slice none 0 0) ?_; intro a31 hF32; clear hF30
  refine s1 hF32 3 (.int .i64 r13) ?_; intro a33 hF34; clear hF32
  refine nlH (hQ28 _ _ ?_); clear hQ28 hQ28Q
  refine wp_ret ?_
  refine thr ?_
  have hM35 : Mem w.heap.size [] w Z [.own tyFilter 28 none 0 ([] : List Filter)] Z wd14 := hM17.addNil tyFilter 28 (by decide); clear hM17
  refine rt (fn := Try.f23) (v := .tuple #[.slice none ([] : List Filter).length 0, .int .i64 r13]) hF34 (re2 hF34 (fn := Try.f23) rfl (by kernel_rfl) (by kernel_rfl)) ?_
  exact ⟨(([] : List Filter), r13), none, 0, Z, rfl, hp27, hM35.keep (List.Sublist.cons_cons _ (List.Sublist.slnil))⟩
 · -- no
  have hp36 := hp18.2 hb26; clear hp18
  refine wp_skip ?_
  refine thn ?_
  refine sqH ?_; intro hQ37Q hQ37
  refine s1 hF25 5 (.slice none 0 0) ?_; intro a38 hF39; clear hF25
  refine nlH (hQ37 _ _ ?_); clear hQ37 hQ37Q
  refine wp_seq ?_
  refine sqH ?_; intro hQ40Q hQ40
  refine s1 hF39 16 (.slice ao1 u0.length cap2) ?_; intro a41 hF42; clear hF39
  refine s1 hF42 17 (.int .i64 (u0.length : Int)) ?_; intro a43 hF44; clear hF42
  refine s1 hF44 18 (.int .i64 0) ?_; intro a45 hF46; clear hF44
  refine nlH (hQ40 _ _ ?_); clear hQ40 hQ40Q
  refine wp_block ?_
  have hF47 : Fr 64 [] [⟨0, [], .slice ao1 u0.length cap2⟩, ⟨5, [], .slice none 0 0⟩, ⟨16, [], .slice ao1 u0.length cap2⟩, ⟨17, [], .int .i64 (u0.length : Int)⟩, ⟨18, [], .int .i64 0⟩] a45 := hF46.region (by kernel_rfl) (by kernel_rfl); clear hF46
  have hM49 : Mem w.heap.size [] w Z [.own tyFilter 28 none 0 ([] : List Filter)] Z wd14 := hM17.addNil tyFilter 28 (by decide); clear hM17
  have hF50 : Fr 64 [] [⟨0, [], .slice ao1 u0.length cap2⟩, ⟨5, [], .slice none ([] : List Filter).length 0⟩, ⟨16, [], .slice ao1 u0.length cap2⟩, ⟨17, [], .int .i64 (u0.length : Int)⟩, ⟨18, [], .int .i64 0⟩] a45 := hF47.region (by kernel_rfl) (by kernel_rfl); clear hF47
  obtain ⟨inv48, mu48, hI53, hr52⟩ := hp36
  refine lp (ι := (List Filter) × Int × (Option Addr) × Nat) (fun (s : (List Filter) × Int × (Option Addr) × Nat) => [⟨0, [], .slice ao1 u0.length cap2⟩, ⟨5, [], .slice s.2.2.1 s.1.length s.2.2.2⟩, ⟨16, [], .slice ao1 u0.length cap2⟩, ⟨17, [], .int .i64 (u0.length : Int)⟩, ⟨18, [], .int .i64 s.2.1⟩]) (fun (s : (List Filter) × Int × (Option Addr) × Nat) => [.own tyFilter 28 s.2.2.1 s.2.2.2 s.1]) (fun (s : (List Filter) × Int × (Option Addr) × Nat) => Z) (fun (s : (List Filter) × Int × (Option Addr) × Nat) => inv48 s.1 s.2.1) (fun (s : (List Filter) × Int × (Option Addr) × Nat) => mu48 s.1 s.2.1) ⟨([] : List Filter), 0, none, 0⟩ hI53 (by exact hF50.region (by kernel_rfl) (by kernel_rfl)) (by exact hM49) ?_
  rintro ⟨x5, x18, aox5, capx5⟩ hI51 a55 wd56 hF57 hM58
  have hF59 : Fr 64 [] [⟨0, [], .slice ao1 u0.length cap2⟩, ⟨5, [], .slice aox5 x5.length capx5⟩, ⟨16, [], .slice ao1 u0.length cap2⟩, ⟨17, [], .int .i64 (u0.length : Int)⟩, ⟨18, [], .int .i64 x18⟩] a55 := hF57; clear hF57 hF50
  have hM60 : Mem w.heap.size [] w Z [.own tyFilter 28 aox5 capx5 x5] Z wd56 := hM58; clear hM58 hM49
  have hp61 := hr52 x5 x18 hI51
  refine sqH ?_; intro hQ62Q hQ62
  refine s1 hF59 19 (.bool (decide (x18 < (u0.length : Int)))) ?_; intro a63 hF64; clear hF59
  refine nlH (hQ62 _ _ ?_); clear hQ62 hQ62Q
  refine wp_seq ?_
  refine cd hF64 (t := decide (x18 < (u0.length : Int))) (by kernel_rfl) (fun hb65 => ?_) (fun hb65 => ?_)
  · -- yes
   have hp66 := hp61.1 hb65; clear hp61
   refine wp_skip ?_
   refine thn ?_
   refine wp_seq ?_
   refine wp_block ?_
   refine sqH ?_; intro hQ67Q hQ67
   refine s1 hF64 20 (.int .i64 x18) ?_; intro a68 hF69; clear hF64
   have hc70 := hp66.1; have hp71 := hp66.2; clear hp66
   refine ix hF69 (T := tyFilter) (xs := u0) hs3 x18 hc70 (k := .i64) (e := 28) (bytes := 24) (nog rfl _) rfl (by kernel_rfl) rfl (by kernel_rfl) (by kernel_rfl) (by kernel_rfl) ?_; intro b72 off73 cs74 q75 a79 hq76 hP77 hT78 hF80; clear hF69
   have hp81 := hp71 q75 hq76; clear hp71
   obtain rfl : cs74 = ([.int .i64 q75.Want, .int .i64 q75.Mask, .bool q75.Long] : List Value) := hT78
   refine z2 hF80 hM60 22 hP77 0 3 [.int .i64 q75.Want, .int .i64 q75.Mask, .bool q75.Long] rfl ?_; intro a82 hF83; clear hF80
   refine sn hF83 hM60 (fun b => .pointer (some ⟨b, 0, none⟩)) [.int .i64 0, .int .i64 0, .bool false] 28 (nog rfl _) rfl (by kernel_rfl) (by kernel_rfl) ?_; intro b84 a85 wd87 hF86 hM88; clear hF83 hM60
   refine s1 hF86 6 (.int .i64 x18) ?_; intro a89 hF90; clear hF86
   refine sr hF90 hM88 0 [.int .i64 q75.Want, .int .i64 q75.Mask, .bool q75.Long] (b := b84) (off := 0) (cs := [.int .i64 0, .int .i64 0, .bool false]) (ty := 28) (u := .agg #[.int .i64 q75.Want, .int .i64 q75.Mask, .bool q75.Long]) (nog rfl _) rfl rfl (by kernel_rfl) (by kernel_rfl) (by kernel_rfl) (by kernel_rfl) (by kernel_rfl) (by kernel_rfl) (by kernel_rfl) ?_; intro wd91 hM92; clear hM88
   have hM93 : Mem w.heap.size [] w Z [.row b84 [.int .i64 q75.Want, .int .i64 q75.Mask, .bool q75.Long] 28, .own tyFilter 28 aox5 capx5 x5] Z wd91 := hM92; clear hM92
   refine nlH (hQ67 _ _ ?_); clear hQ67 hQ67Q
   refine sqH ?_; intro hQ94Q hQ94
   refine s1 hF90 8 (.bool false) ?_; intro a95 hF96; clear hF90
   refine nlH (hQ94 _ _ ?_); clear hQ94 hQ94Q
   refine wp_seq ?_
   refine sqH ?_; intro hQ97Q hQ97
   refine s1 hF96 23 (.slice ao1 u0.length cap2) ?_; intro a98 hF99; clear hF96
   refine s1 hF99 24 (.int .i64 (u0.length : Int)) ?_; intro a100 hF101; clear hF99
   refine s1 hF101 25 (.int .i64 0) ?_; intro a102 hF103; clear hF101
   refine nlH (hQ97 _ _ ?_); clear hQ97 hQ97Q
   refine wp_block ?_
   have hF104 : Fr 64 [] [⟨0, [], .slice ao1 u0.length cap2⟩, ⟨5, [], .slice aox5 x5.length capx5⟩, ⟨6, [], .int .i64 x18⟩, ⟨7, [], .pointer (some ⟨b84, 0, none⟩)⟩, ⟨8, [], .bool false⟩, ⟨16, [], .slice ao1 u0.length cap2⟩, ⟨17, [], .int .i64 (u0.length : Int)⟩, ⟨18, [], .int .i64 x18⟩, ⟨23, [], .slice ao1 u0.length cap2⟩, ⟨24, [], .int .i64 (u0.length : Int)⟩, ⟨25, [], .int .i64 0⟩] a102 := hF103.region (by kernel_rfl) (by kernel_rfl); clear hF103
   have hF106 : Fr 64 [] [⟨0, [], .slice ao1 u0.length cap2⟩, ⟨5, [], .slice aox5 x5.length capx5⟩, ⟨6, [], .int .i64 x18⟩, ⟨7, [], .pointer (some ⟨b84, 0, none⟩)⟩, ⟨8, [], .bool false⟩, ⟨16, [], .slice ao1 u0.length cap2⟩, ⟨17, [], .int .i64 (u0.length : Int)⟩, ⟨18, [], .int .i64 x18⟩, ⟨23, [], .slice ao1 u0.length cap2⟩, ⟨24, [], .int .i64 (u0.length : Int)⟩, ⟨25, [], .int .i64 0⟩] a102 := hF104.region (by kernel_rfl) (by kernel_rfl); clear hF104
   obtain ⟨inv105, mu105, hI109, hr108⟩ := hp81
   refine lp (ι := Bool × Int) (fun (s : Bool × Int) => [⟨0, [], .slice ao1 u0.length cap2⟩, ⟨5, [], .slice aox5 x5.length capx5⟩, ⟨6, [], .int .i64 x18⟩, ⟨7, [], .pointer (some ⟨b84, 0, none⟩)⟩, ⟨8, [], .bool s.1⟩, ⟨16, [], .slice ao1 u0.length cap2⟩, ⟨17, [], .int .i64 (u0.length : Int)⟩, ⟨18, [], .int .i64 x18⟩, ⟨23, [], .slice ao1 u0.length cap2⟩, ⟨24, [], .int .i64 (u0.length : Int)⟩, ⟨25, [], .int .i64 s.2⟩]) (fun (s : Bool × Int) => [.row b84 [.int .i64 q75.Want, .int .i64 q75.Mask, .bool q75.Long] 28, .own tyFilter 28 aox5 capx5 x5]) (fun (s : Bool × Int) => Z) (fun (s : Bool × Int) => inv105 s.1 s.2) (fun (s : Bool × Int) => mu105 s.1 s.2) ⟨false, 0⟩ hI109 (by exact hF106.region (by kernel_rfl) (by kernel_rfl)) (by exact hM93) ?_
   rintro ⟨x8, x25⟩ hI107 a111 wd112 hF113 hM114
   have hF115 : Fr 64 [] [⟨0, [], .slice ao1 u0.length cap2⟩, ⟨5, [], .slice aox5 x5.length capx5⟩, ⟨6, [], .int .i64 x18⟩, ⟨7, [], .pointer (some ⟨b84, 0, none⟩)⟩, ⟨8, [], .bool x8⟩, ⟨16, [], .slice ao1 u0.length cap2⟩, ⟨17, [], .int .i64 (u0.length : Int)⟩, ⟨18, [], .int .i64 x18⟩, ⟨23, [], .slice ao1 u0.length cap2⟩, ⟨24, [], .int .i64 (u0.length : Int)⟩, ⟨25, [], .int .i64 x25⟩] a111 := hF113; clear hF113 hF106
   have hM116 : Mem w.heap.size [] w Z [.row b84 [.int .i64 q75.Want, .int .i64 q75.Mask, .bool q75.Long] 28, .own tyFilter 28 aox5 capx5 x5] Z wd112 := hM114; clear hM114 hM93
   have hp117 := hr108 x8 x25 hI107
   refine sqH ?_; intro hQ118Q hQ118
   refine s1 hF115 26 (.bool (decide (x25 < (u0.length : Int)))) ?_; intro a119 hF120; clear hF115
   refine nlH (hQ118 _ _ ?_); clear hQ118 hQ118Q
   refine wp_seq ?_
   refine cd hF120 (t := decide (x25 < (u0.length : Int))) (by kernel_rfl) (fun hb121 => ?_) (fun hb121 => ?_)
   · -- yes
    have hp122 := hp117.1 hb121; clear hp117
    refine wp_skip ?_
    refine thn ?_
    refine wp_seq ?_
    refine wp_block ?_
    refine sqH ?_; intro hQ123Q hQ123
    refine s1 hF120 27 (.int .i64 x25) ?_; intro a124 hF125; clear hF120
    have hc126 := hp122.1; have hp127 := hp122.2; clear hp122
    refine ix hF125 (T := tyFilter) (xs := u0) hs3 x25 hc126 (k := .i64) (e := 28) (bytes := 24) (nog rfl _) rfl (by kernel_rfl) rfl (by kernel_rfl) (by kernel_rfl) (by kernel_rfl) ?_; intro b128 off129 cs130 q131 a135 hq132 hP133 hT134 hF136; clear hF125
    have hp137 := hp127 q131 hq132; clear hp127
    obtain rfl : cs130 = ([.int .i64 q131.Want, .int .i64 q131.Mask, .bool q131.Long] : List Value) := hT134
    refine z2 hF136 hM116 29 hP133 0 3 [.int .i64 q131.Want, .int .i64 q131.Mask, .bool q131.Long] rfl ?_; intro a138 hF139; clear hF136
    refine sn hF139 hM116 (fun b => .pointer (some ⟨b, 0, none⟩)) [.int .i64 0, .int .i64 0, .bool false] 28 (nog rfl _) rfl (by kernel_rfl) (by kernel_rfl) ?_; intro b140 a141 wd143 hF142 hM144; clear hF139 hM116
    refine s1 hF142 9 (.int .i64 x25) ?_; intro a145 hF146; clear hF142
    refine sr hF146 hM144 0 [.int .i64 q131.Want, .int .i64 q131.Mask, .bool q131.Long] (b := b140) (off := 0) (cs := [.int .i64 0, .int .i64 0, .bool false]) (ty := 28) (u := .agg #[.int .i64 q131.Want, .int .i64 q131.Mask, .bool q131.Long]) (nog rfl _) rfl rfl (by kernel_rfl) (by kernel_rfl) (by kernel_rfl) (by kernel_rfl) (by kernel_rfl) (by kernel_rfl) (by kernel_rfl) ?_; intro wd147 hM148; clear hM144
    have hM149 : Mem w.heap.size [] w Z [.row b140 [.int .i64 q131.Want, .int .i64 q131.Mask, .bool q131.Long] 28, .row b84 [.int .i64 q75.Want, .int .i64 q75.Mask, .bool q75.Long] 28, .own tyFilter 28 aox5 capx5 x5] Z wd147 := hM148; clear hM148
    refine nlH (hQ123 _ _ ?_); clear hQ123 hQ123Q
    refine sqH ?_; intro hQ150Q hQ150
    refine s1 hF146 30 (.int .i64 x25) ?_; intro a151 hF152; clear hF146
    refine s1 hF152 31 (.int .i64 x18) ?_; intro a153 hF154; clear hF152
    refine s1 hF154 32 (.bool (x25 != x18)) ?_; intro a155 hF156; clear hF154
    refine s1 hF156 33 (.bool (x25 != x18)) ?_; intro a157 hF158; clear hF156
    have hF159 := hF158.atom ((x25 != x18) == true) (by kernel_rfl); clear hF158
    refine gd hF159 (.agg #[.int .i64 q75.Want, .int .i64 q75.Mask, .bool q75.Long]) (m := 0) (cj := []) (bj := x25 != x18) rfl rfl (by kernel_rfl) rfl (by kernel_rfl) (by kernel_rfl) (by kernel_rfl) (fun hg => lda hF159 hM149 1 (g := [0]) (b := b84) (off := 0) (k := 3) (cs := [.int .i64 q75.Want, .int .i64 q75.Mask, .bool q75.Long]) (vs := [.int .i64 q75.Want, .int .i64 q75.Mask, .bool q75.Long]) (ty := 28) rfl (by kernel_rfl) (by kernel_rfl) (by kernel_rfl) (by kernel_rfl) (by kernel_rfl) hg) ?_; intro a160 hF161; clear hF159
    refine gd hF161 (.agg #[.int .i64 q131.Want, .int .i64 q131.Mask, .bool q131.Long]) (m := 0) (cj := []) (bj := x25 != x18) rfl rfl (by kernel_rfl) rfl (by kernel_rfl) (by kernel_rfl) (by kernel_rfl) (fun hg => lda hF161 hM149 0 (g := [0]) (b := b140) (off := 0) (k := 3) (cs := [.int .i64 q131.Want, .int .i64 q131.Mask, .bool q131.Long]) (vs := [.int .i64 q131.Want, .int .i64 q131.Mask, .bool q131.Long]) (ty := 28) rfl (by kernel_rfl) (by kernel_rfl) (by kernel_rfl) (by kernel_rfl) (by kernel_rfl) hg) ?_; intro a162 hF163; clear hF161
    refine gcl hF163 hM149 (.bool (fwithin q75 q131)) 51 #[.agg #[.int .i64 q75.Want, .int .i64 q75.Mask, .bool q75.Long], .agg #[.int .i64 q131.Want, .int .i64 q131.Mask, .bool q131.Long]] (m := 0) (cj := []) (bj := x25 != x18) rfl rfl (by kernel_rfl) rfl (by kernel_rfl) (by kernel_rfl) (by kernel_rfl) (fun _ => by kernel_rfl) (fun hg => fwithin_fun q75 q131 _ _ hM149.fz) ?_; intro a164 wd166 hF165 hM167; clear hF163 hM149
    refine st hF165 (.bool ((x25 != x18) && (fwithin q75 q131))) (nog rfl _) rfl (by kernel_rfl) (pk_and hF165 (g := []) (m := 0) (b := x25 != x18) (v := (fwithin q75 q131)) rfl (by kernel_rfl) (by kernel_rfl) (by kernel_rfl) rfl) ?_; intro a168 hF169; clear hF165
    refine s1 hF169 38 (.bool ((x25 != x18) && (fwithin q75 q131))) ?_; intro a170 hF171; clear hF169
    have hF172 := hF171.atom (((x25 != x18) && (fwithin q75 q131)) == true) (by kernel_rfl); clear hF171
    refine gp hF172 39 1 [] ((x25 != x18) && (fwithin q75 q131)) (.int .i64 x25) rfl rfl ?_; intro a173 hF174; clear hF172
    refine gp hF174 40 1 [] ((x25 != x18) && (fwithin q75 q131)) (.int .i64 x18) rfl rfl ?_; intro a175 hF176; clear hF174
    refine gp hF176 41 1 [] ((x25 != x18) && (fwithin q75 q131)) (.bool (decide (x25 < x18))) rfl rfl ?_; intro a177 hF178; clear hF176
    refine gp hF178 42 1 [] ((x25 != x18) && (fwithin q75 q131)) (.bool (decide (x25 < x18))) rfl rfl ?_; intro a179 hF180; clear hF178
    have hF181 := hF180.atom ((decide (x25 < x18)) == false) (by kernel_rfl); clear hF180
    refine gd hF181 (.agg #[.int .i64 q131.Want, .int .i64 q131.Mask, .bool q131.Long]) (m := 2) (cj := [1]) (bj := decide (x25 < x18)) rfl rfl (by kernel_rfl) rfl (by kernel_rfl) (by kernel_rfl) (by kernel_rfl) (fun hg => lda hF181 hM167 0 (g := [2, 1]) (b := b140) (off := 0) (k := 3) (cs := [.int .i64 q131.Want, .int .i64 q131.Mask, .bool q131.Long]) (vs := [.int .i64 q131.Want, .int .i64 q131.Mask, .bool q131.Long]) (ty := 28) rfl (by kernel_rfl) (by kernel_rfl) (by kernel_rfl) (by kernel_rfl) (by kernel_rfl) hg) ?_; intro a182 hF183; clear hF181
    refine gd hF183 (.agg #[.int .i64 q75.Want, .int .i64 q75.Mask, .bool q75.Long]) (m := 2) (cj := [1]) (bj := decide (x25 < x18)) rfl rfl (by kernel_rfl) rfl (by kernel_rfl) (by kernel_rfl) (by kernel_rfl) (fun hg => lda hF183 hM167 1 (g := [2, 1]) (b := b84) (off := 0) (k := 3) (cs := [.int .i64 q75.Want, .int .i64 q75.Mask, .bool q75.Long]) (vs := [.int .i64 q75.Want, .int .i64 q75.Mask, .bool q75.Long]) (ty := 28) rfl (by kernel_rfl) (by kernel_rfl) (by kernel_rfl) (by kernel_rfl) (by kernel_rfl) hg) ?_; intro a184 hF185; clear hF183
    refine gcl hF185 hM167 (.bool (fwithin q131 q75)) 51 #[.agg #[.int .i64 q131.Want, .int .i64 q131.Mask, .bool q131.Long], .agg #[.int .i64 q75.Want, .int .i64 q75.Mask, .bool q75.Long]] (m := 2) (cj := [1]) (bj := decide (x25 < x18)) rfl rfl (by kernel_rfl) rfl (by kernel_rfl) (by kernel_rfl) (by kernel_rfl) (fun _ => by kernel_rfl) (fun hg => fwithin_fun q131 q75 _ _ hM167.fz) ?_; intro a186 wd188 hF187 hM189; clear hF185 hM167
    refine gp hF187 46 2 [1] (decide (x25 < x18)) (.bool (!(fwithin q131 q75))) rfl rfl ?_; intro a190 hF191; clear hF187
    refine gd hF191 (.bool ((decide (x25 < x18)) || (!(fwithin q131 q75)))) (m := 1) (cj := []) (bj := (x25 != x18) && (fwithin q75 q131)) rfl rfl (by kernel_rfl) rfl (by kernel_rfl) (by kernel_rfl) (by kernel_rfl) (fun hg => pk_or hF191 (g := [1]) (m := 2) (b := decide (x25 < x18)) (v := !(fwithin q131 q75)) rfl (by kernel_rfl) (by kernel_rfl) (by kernel_rfl) hg) ?_; intro a192 hF193; clear hF191
    refine st hF193 (.bool (((x25 != x18) && (fwithin q75 q131)) && ((decide (x25 < x18)) || (!(fwithin q131 q75))))) (nog rfl _) rfl (by kernel_rfl) (pk_and hF193 (g := []) (m := 1) (b := (x25 != x18) && (fwithin q75 q131)) (v := (decide (x25 < x18)) || (!(fwithin q131 q75))) rfl (by kernel_rfl) (by kernel_rfl) (by kernel_rfl) rfl) ?_; intro a194 hF195; clear hF193
    refine nlH (hQ150 _ _ ?_); clear hQ150 hQ150Q
    refine cd hF195 (t := ((x25 != x18) && (fwithin q75 q131)) && ((decide (x25 < x18)) || (!(fwithin q131 q75)))) (by kernel_rfl) (fun hb196 => ?_) (fun hb196 => ?_)
    · -- yes
     have hp197 := hp137.1 hb196; clear hp137
     have hF198 : Fr 64 [] [⟨0, [], .slice ao1 u0.length cap2⟩, ⟨5, [], .slice aox5 x5.length capx5⟩, ⟨6, [], .int .i64 x18⟩, ⟨7, [], .pointer (some ⟨b84, 0, none⟩)⟩, ⟨16, [], .slice ao1 u0.length cap2⟩, ⟨17, [], .int .i64 (u0.length : Int)⟩, ⟨18, [], .int .i64 x18⟩, ⟨23, [], .slice ao1 u0.length cap2⟩, ⟨24, [], .int .i64 (u0.length : Int)⟩, ⟨25, [], .int .i64 x25⟩] a194 := hF195.region (by kernel_rfl) (by kernel_rfl); clear hF195
     refine rgH ?_; intro hQ199Q hQ199
     refine s1 hF198 8 (.bool true) ?_; intro a200 hF201; clear hF198
     refine nlH (hQ199 _ _ ?_); clear hQ199 hQ199Q
     refine ibn ?_
     refine thn ?_
     refine rgH ?_; intro hQ202Q hQ202
     refine s1 hF201 49 (.int .i64 (w64 (x25 + 1))) ?_; intro a203 hF204; clear hF201
     refine s1 hF204 25 (.int .i64 (w64 (x25 + 1))) ?_; intro a205 hF206; clear hF204
     refine nlH (hQ202 _ _ ?_); clear hQ202 hQ202Q
     refine rd ?_
     exact ⟨⟨true, w64 (x25 + 1)⟩, hp197.1, hp197.2, (hF206.region (by kernel_rfl) (by kernel_rfl)).anyβ _ (by kernel_rfl), hM189.keep (List.Sublist.cons _ (List.Sublist.cons_cons _ (List.Sublist.cons_cons _ (List.Sublist.slnil))))⟩
    · -- no
     have hp207 := hp137.2 hb196; clear hp137
     refine wp_skip ?_
     refine ibn ?_
     refine thn ?_
     have hF208 : Fr 64 [] [⟨0, [], .slice ao1 u0.length cap2⟩, ⟨5, [], .slice aox5 x5.length capx5⟩, ⟨6, [], .int .i64 x18⟩, ⟨7, [], .pointer (some ⟨b84, 0, none⟩)⟩, ⟨8, [], .bool x8⟩, ⟨16, [], .slice ao1 u0.length cap2⟩, ⟨17, [], .int .i64 (u0.length : Int)⟩, ⟨18, [], .int .i64 x18⟩, ⟨23, [], .slice ao1 u0.length cap2⟩, ⟨24, [], .int .i64 (u0.length : Int)⟩, ⟨25, [], .int .i64 x25⟩] a194 := hF195.region (by kernel_rfl) (by kernel_rfl); clear hF195
     refine rgH ?_; intro hQ209Q hQ209
     refine s1 hF208 49 (.int .i64 (w64 (x25 + 1))) ?_; intro a210 hF211; clear hF208
     refine s1 hF211 25 (.int .i64 (w64 (x25 + 1))) ?_; intro a212 hF213; clear hF211
     refine nlH (hQ209 _ _ ?_); clear hQ209 hQ209Q
     refine rd ?_
     exact ⟨⟨x8, w64 (x25 + 1)⟩, hp207.1, hp207.2, (hF213.region (by kernel_rfl) (by kernel_rfl)).anyβ _ (by kernel_rfl), hM189.keep (List.Sublist.cons _ (List.Sublist.cons_cons _ (List.Sublist.cons_cons _ (List.Sublist.slnil))))⟩
   · -- no
    have hp214 := hp117.2 hb121; clear hp117
    refine wp_exit ?_
    refine thx ?_
    refine thx ?_
    refine ibx ?_
    refine thn ?_
    refine sqH ?_; intro hQ215Q hQ215
    refine s1 hF120 50 (.bool x8) ?_; intro a216 hF217; clear hF120
    refine s1 hF217 51 (.bool (!x8)) ?_; intro a218 hF219; clear hF217
    refine nlH (hQ215 _ _ ?_); clear hQ215 hQ215Q
    refine cd hF219 (t := !x8) (by kernel_rfl) (fun hb220 => ?_) (fun hb220 => ?_)
    · -- yes
     have hp221 := hp214.1 hb220; clear hp214
     refine sqH ?_; intro hQ222Q hQ222
     refine s1 hF219 52 (.pointer (some ⟨b84, 0, none⟩)) ?_; intro a223 hF224; clear hF219
     refine l1 hF224 hM116 53 0 0 (.int .i64 q75.Want) rfl rfl ?_; intro a225 hF226; clear hF224
     refine s1 hF226 54 (.pointer (some ⟨b84, 1, none⟩)) ?_; intro a227 hF228; clear hF226
     refine l1 hF228 hM116 55 0 1 (.int .i64 q75.Mask) rfl rfl ?_; intro a229 hF230; clear hF228
     refine s1 hF230 56 (.int .i64 (bAnd .i64 q75.Want q75.Mask)) ?_; intro a231 hF232; clear hF230
     refine s1 hF232 57 (.pointer (some ⟨b84, 0, none⟩)) ?_; intro a233 hF234; clear hF232
     refine sr hF234 hM116 0 [.int .i64 (bAnd .i64 q75.Want q75.Mask), .int .i64 q75.Mask, .bool q75.Long] (b := b84) (off := 0) (cs := [.int .i64 q75.Want, .int .i64 q75.Mask, .bool q75.Long]) (ty := 28) (u := .int .i64 (bAnd .i64 q75.Want q75.Mask)) (nog rfl _) rfl rfl (by kernel_rfl) (by kernel_rfl) (by kernel_rfl) (by kernel_rfl) (by kernel_rfl) (by kernel_rfl) (by kernel_rfl) ?_; intro wd235 hM236; clear hM116
     have hM237 : Mem w.heap.size [] w Z [.row b84 [.int .i64 (bAnd .i64 q75.Want q75.Mask), .int .i64 q75.Mask, .bool q75.Long] 28, .own tyFilter 28 aox5 capx5 x5] Z wd235 := hM236; clear hM236
     refine nlH (hQ222 _ _ ?_); clear hQ222 hQ222Q
     refine rgH ?_; intro hQ238Q hQ238
     refine s1 hF234 58 (.slice aox5 x5.length capx5) ?_; intro a239 hF240; clear hF234
     refine l2 hF240 hM237 59 0 0 3 [.int .i64 (bAnd .i64 q75.Want q75.Mask), .int .i64 q75.Mask, .bool q75.Long] rfl rfl ?_; intro a241 hF242; clear hF240
     refine sn hF242 hM237 (fun b => .slice (some ⟨b, 0, none⟩) 1 1) [.int .i64 (bAnd .i64 q75.Want q75.Mask), .int .i64 q75.Mask, .bool q75.Long] 28 (nog rfl _) rfl (by kernel_rfl) (by kernel_rfl) ?_; intro b243 a244 wd246 hF245 hM247; clear hF242 hM237
     have hc248 := hp221.1; have hp249 := hp221.2; clear hp221
     refine ap hF245 hM247 2 (T := tyFilter) (xs := x5) (ys := [(⟨bAnd .i64 q75.Want q75.Mask, q75.Mask, q75.Long⟩ : Filter)]) (ao := aox5) (cap := capx5) (ao2 := (some ⟨b243, 0, none⟩)) (cap2 := 1) (t := 22) (e := 28) (bytes := 24) (nog rfl _) rfl (by kernel_rfl) rfl (by kernel_rfl) (by kernel_rfl) (by kernel_rfl) rfl (Src.row hM247 0 rfl (RepAll.one (T := tyFilter) (x := (⟨bAnd .i64 q75.Want q75.Mask, q75.Mask, q75.Long⟩ : Filter)) rfl)) hc248 ?_; intro ao250 cap251 a255 wd252 hnil253 hF256 hM254; clear hF245 hM247
     have hM257 : Mem w.heap.size [] w Z [.row b243 [.int .i64 (bAnd .i64 q75.Want q75.Mask), .int .i64 q75.Mask, .bool q75.Long] 28, .row b84 [.int .i64 (bAnd .i64 q75.Want q75.Mask), .int .i64 q75.Mask, .bool q75.Long] 28, .own tyFilter 28 ao250 cap251 (x5 ++ [(⟨bAnd .i64 q75.Want q75.Mask, q75.Mask, q75.Long⟩ : Filter)])] Z wd252 := hM254; clear hM254
     refine s1 hF256 5 (.slice ao250 (x5 ++ [(⟨bAnd .i64 q75.Want q75.Mask, q75.Mask, q75.Long⟩ : Filter)]).length cap251) ?_; intro a258 hF259; clear hF256
     refine nlH (hQ238 _ _ ?_); clear hQ238 hQ238Q
     refine ibn ?_
     refine thn ?_
     have hF260 : Fr 64 [] [⟨0, [], .slice ao1 u0.length cap2⟩, ⟨5, [], .slice ao250 (x5 ++ [(⟨bAnd .i64 q75.Want q75.Mask, q75.Mask, q75.Long⟩ : Filter)]).length cap251⟩, ⟨16, [], .slice ao1 u0.length cap2⟩, ⟨17, [], .int .i64 (u0.length : Int)⟩, ⟨18, [], .int .i64 x18⟩] a258 := hF259.region (by kernel_rfl) (by kernel_rfl); clear hF259
     refine rgH ?_; intro hQ261Q hQ261
     refine s1 hF260 62 (.int .i64 (w64 (x18 + 1))) ?_; intro a262 hF263; clear hF260
     refine s1 hF263 18 (.int .i64 (w64 (x18 + 1))) ?_; intro a264 hF265; clear hF263
     refine nlH (hQ261 _ _ ?_); clear hQ261 hQ261Q
     refine rd ?_
     exact ⟨⟨x5 ++ [(⟨bAnd .i64 q75.Want q75.Mask, q75.Mask, q75.Long⟩ : Filter)], w64 (x18 + 1), ao250, cap251⟩, hp249.1, hp249.2, (hF265.region (by kernel_rfl) (by kernel_rfl)).anyβ _ (by kernel_rfl), hM257.keep (List.Sublist.cons _ (List.Sublist.cons _ (List.Sublist.cons_cons _ (List.Sublist.slnil))))⟩
    · -- no
     have hp266 := hp214.2 hb220; clear hp214
     refine wp_skip ?_
     refine ibn ?_
     refine thn ?_
     refine rgH ?_; intro hQ267Q hQ267
     refine s1 hF219 62 (.int .i64 (w64 (x18 + 1))) ?_; intro a268 hF269; clear hF219
     refine s1 hF269 18 (.int .i64 (w64 (x18 + 1))) ?_; intro a270 hF271; clear hF269
     refine nlH (hQ267 _ _ ?_); clear hQ267 hQ267Q
     refine rd ?_
     exact ⟨⟨x5, w64 (x18 + 1), aox5, capx5⟩, hp266.1, hp266.2, (hF271.region (by kernel_rfl) (by kernel_rfl)).anyβ _ (by kernel_rfl), hM116.keep (List.Sublist.cons _ (List.Sublist.cons_cons _ (List.Sublist.slnil)))⟩
  · -- no
   have hp272 := hp61.2 hb65; clear hp61
   refine wp_exit ?_
   refine thx ?_
   refine thx ?_
   refine ibx ?_
   refine thn ?_
   refine sqH ?_; intro hQ273Q hQ273
   refine s1 hF64 63 (.slice aox5 x5.length capx5) ?_; intro a274 hF275; clear hF64
   refine s1 hF275 2 (.slice aox5 x5.length capx5) ?_; intro a276 hF277; clear hF275
   refine s1 hF277 3 (.int .i64 0) ?_; intro a278 hF279; clear hF277
   refine nlH (hQ273 _ _ ?_); clear hQ273 hQ273Q
   refine wp_ret ?_
   refine rt (fn := Try.f23) (v := .tuple #[.slice aox5 x5.length capx5, .int .i64 0]) hF279 (re2 hF279 (fn := Try.f23) rfl (by kernel_rfl) (by kernel_rfl)) ?_
   exact ⟨(x5, 0), aox5, capx5, Z, rfl, hp272, hM60.keep (List.Sublist.cons_cons _ (List.Sublist.slnil))⟩

end Go.Proofs.Ytkogkombalcgeaa
