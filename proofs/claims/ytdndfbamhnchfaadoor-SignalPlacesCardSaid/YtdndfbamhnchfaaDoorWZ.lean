/- The walks, made by program: each call does what its pure predicate says. -/
import Derived.Test.YtdndfbamhnchfaaDoorRows
import Derived.Test.YtdndfbamhnchfaaDoorPZ
set_option linter.unusedVariables false
set_option linter.unusedSimpArgs false
namespace Go.Proofs.YtdndfbamhnchfaaDoor
open Go.Sy Go.RowKit
theorem mixed : Tryd.prog.follows .mixedOrders = true := by kernel_rfl
theorem rdSignal : Rd Tryd.prog 23 tySignal okSignal := by
  refine ⟨fun enc w fuel cs x h hw => ?_⟩
  have hu : Tryd.prog.underlying 23 = some (.struct _) := Tryd.underlying23
  have hl := rd_len hu h (m := 9) (by kernel_rfl)
  obtain ⟨q0, h0, k0⟩ := rd_field hu h hw 0 rfl (rd_str (P := Tryd.prog) (t := 9) (by kernel_rfl)) (m := 1) (by kernel_rfl) (off := 0) rfl
  have e0 : (cs.drop 0).take 1 = [str q0] := h0
  obtain ⟨q1, h1, k1⟩ := rd_field hu h hw 1 rfl (rd_int (P := Tryd.prog) (t := 3) (k := .i64) (by kernel_rfl)) (m := 1) (by kernel_rfl) (off := 1) rfl
  have e1 : (cs.drop 1).take 1 = [.int .i64 q1] := h1
  obtain ⟨q2, h2, k2⟩ := rd_field hu h hw 2 rfl (rd_int (P := Tryd.prog) (t := 3) (k := .i64) (by kernel_rfl)) (m := 1) (by kernel_rfl) (off := 2) rfl
  have e2 : (cs.drop 2).take 1 = [.int .i64 q2] := h2
  obtain ⟨q3, h3, k3⟩ := rd_field hu h hw 3 rfl (rd_bool (P := Tryd.prog) (t := 4) (by kernel_rfl)) (m := 1) (by kernel_rfl) (off := 3) rfl
  have e3 : (cs.drop 3).take 1 = [.bool q3] := h3
  obtain ⟨q4, h4, k4⟩ := rd_field hu h hw 4 rfl (rd_bool (P := Tryd.prog) (t := 4) (by kernel_rfl)) (m := 1) (by kernel_rfl) (off := 4) rfl
  have e4 : (cs.drop 4).take 1 = [.bool q4] := h4
  obtain ⟨q5, h5, k5⟩ := rd_field hu h hw 5 rfl (rd_int (P := Tryd.prog) (t := 3) (k := .i64) (by kernel_rfl)) (m := 1) (by kernel_rfl) (off := 5) rfl
  have e5 : (cs.drop 5).take 1 = [.int .i64 q5] := h5
  obtain ⟨q6, h6, k6⟩ := rd_field hu h hw 6 rfl (rd_int (P := Tryd.prog) (t := 3) (k := .i64) (by kernel_rfl)) (m := 1) (by kernel_rfl) (off := 6) rfl
  have e6 : (cs.drop 6).take 1 = [.int .i64 q6] := h6
  obtain ⟨q7, h7, k7⟩ := rd_field hu h hw 7 rfl (rd_int (P := Tryd.prog) (t := 3) (k := .i64) (by kernel_rfl)) (m := 1) (by kernel_rfl) (off := 7) rfl
  have e7 : (cs.drop 7).take 1 = [.int .i64 q7] := h7
  obtain ⟨q8, h8, k8⟩ := rd_field hu h hw 8 rfl (rd_int (P := Tryd.prog) (t := 3) (k := .i64) (by kernel_rfl)) (m := 1) (by kernel_rfl) (off := 8) rfl
  have e8 : (cs.drop 8).take 1 = [.int .i64 q8] := h8
  have z : cs.drop 9 = [] := List.drop_eq_nil_of_le (by omega)
  have g8 : cs.drop 8 = [.int .i64 q8] := by rw [show cs.drop 8 = (cs.drop 8).take 1 ++ cs.drop 9 from cut_at cs 8 1, e8, z]; rfl
  have g7 : cs.drop 7 = [.int .i64 q7, .int .i64 q8] := by rw [show cs.drop 7 = (cs.drop 7).take 1 ++ cs.drop 8 from cut_at cs 7 1, e7, g8]; rfl
  have g6 : cs.drop 6 = [.int .i64 q6, .int .i64 q7, .int .i64 q8] := by rw [show cs.drop 6 = (cs.drop 6).take 1 ++ cs.drop 7 from cut_at cs 6 1, e6, g7]; rfl
  have g5 : cs.drop 5 = [.int .i64 q5, .int .i64 q6, .int .i64 q7, .int .i64 q8] := by rw [show cs.drop 5 = (cs.drop 5).take 1 ++ cs.drop 6 from cut_at cs 5 1, e5, g6]; rfl
  have g4 : cs.drop 4 = [.bool q4, .int .i64 q5, .int .i64 q6, .int .i64 q7, .int .i64 q8] := by rw [show cs.drop 4 = (cs.drop 4).take 1 ++ cs.drop 5 from cut_at cs 4 1, e4, g5]; rfl
  have g3 : cs.drop 3 = [.bool q3, .bool q4, .int .i64 q5, .int .i64 q6, .int .i64 q7, .int .i64 q8] := by rw [show cs.drop 3 = (cs.drop 3).take 1 ++ cs.drop 4 from cut_at cs 3 1, e3, g4]; rfl
  have g2 : cs.drop 2 = [.int .i64 q2, .bool q3, .bool q4, .int .i64 q5, .int .i64 q6, .int .i64 q7, .int .i64 q8] := by rw [show cs.drop 2 = (cs.drop 2).take 1 ++ cs.drop 3 from cut_at cs 2 1, e2, g3]; rfl
  have g1 : cs.drop 1 = [.int .i64 q1, .int .i64 q2, .bool q3, .bool q4, .int .i64 q5, .int .i64 q6, .int .i64 q7, .int .i64 q8] := by rw [show cs.drop 1 = (cs.drop 1).take 1 ++ cs.drop 2 from cut_at cs 1 1, e1, g2]; rfl
  have g0 : cs.drop 0 = [str q0, .int .i64 q1, .int .i64 q2, .bool q3, .bool q4, .int .i64 q5, .int .i64 q6, .int .i64 q7, .int .i64 q8] := by rw [show cs.drop 0 = (cs.drop 0).take 1 ++ cs.drop 1 from cut_at cs 0 1, e0, g1]; rfl
  refine ⟨⟨q0, q1, q2, q3, q4, q5, q6, q7, q8⟩, ?_, k0, k1, k2, k3, k4, k5, k6, k7, k8⟩
  rw [List.drop_zero] at g0
  exact g0

theorem rdReading : Rd Tryd.prog 26 tyReading okReading := by
  refine ⟨fun enc w fuel cs x h hw => ?_⟩
  have hu : Tryd.prog.underlying 26 = some (.struct _) := Tryd.underlying26
  have hl := rd_len hu h (m := 3) (by kernel_rfl)
  obtain ⟨q0, h0, k0⟩ := rd_field hu h hw 0 rfl (rd_str (P := Tryd.prog) (t := 9) (by kernel_rfl)) (m := 1) (by kernel_rfl) (off := 0) rfl
  have e0 : (cs.drop 0).take 1 = [str q0] := h0
  obtain ⟨q1, h1, k1⟩ := rd_field hu h hw 1 rfl (rd_int (P := Tryd.prog) (t := 3) (k := .i64) (by kernel_rfl)) (m := 1) (by kernel_rfl) (off := 1) rfl
  have e1 : (cs.drop 1).take 1 = [.int .i64 q1] := h1
  obtain ⟨q2, h2, k2⟩ := rd_field hu h hw 2 rfl (rd_int (P := Tryd.prog) (t := 3) (k := .i64) (by kernel_rfl)) (m := 1) (by kernel_rfl) (off := 2) rfl
  have e2 : (cs.drop 2).take 1 = [.int .i64 q2] := h2
  have z : cs.drop 3 = [] := List.drop_eq_nil_of_le (by omega)
  have g2 : cs.drop 2 = [.int .i64 q2] := by rw [show cs.drop 2 = (cs.drop 2).take 1 ++ cs.drop 3 from cut_at cs 2 1, e2, z]; rfl
  have g1 : cs.drop 1 = [.int .i64 q1, .int .i64 q2] := by rw [show cs.drop 1 = (cs.drop 1).take 1 ++ cs.drop 2 from cut_at cs 1 1, e1, g2]; rfl
  have g0 : cs.drop 0 = [str q0, .int .i64 q1, .int .i64 q2] := by rw [show cs.drop 0 = (cs.drop 0).take 1 ++ cs.drop 1 from cut_at cs 0 1, e0, g1]; rfl
  refine ⟨⟨q0, q1, q2⟩, ?_, k0, k1, k2⟩
  rw [List.drop_zero] at g0
  exact g0

set_option maxRecDepth 100000 in
set_option maxHeartbeats 0 in
theorem sname_walk (u0 : List UInt8)  (Z : Fz) (w : World)  (hZ : Z.on w) {K : Bool → Prop} (hp : sname_vc u0 K) : Calls Tryd.prog 20 #[str u0] w fun e w' => ∃ r : Bool, e = .returned (.bool r) ∧ K r ∧ Below w.heap.size w w' := by
 refine enter0 Tryd.func20 rfl rfl (by kernel_rfl) ?_; intro a0 hF0; have hM0 := Mem.start w Z hZ; have hle0 := Fz.le.refl Z
 refine sqH ?_; intro hQ1Q hQ1
 refine s1 hF0 2 (.bool false) ?_; intro a2 hF3; clear hF0
 refine nlH (hQ1 _ _ ?_); clear hQ1 hQ1Q
 refine wp_seq ?_
 refine sqH ?_; intro hQ4Q hQ4
 refine s1 hF3 6 (str u0) ?_; intro a5 hF6; clear hF3
 refine st hF6 (.bool (u0 == ([] : List UInt8))) (nog rfl _) rfl (by kernel_rfl) (strcmp_run hF6 (g := []) (op := .eql) rfl (by kernel_rfl) (by kernel_rfl) (by decide) rfl) ?_; intro a7 hF8; clear hF6
 refine s1 hF8 8 (.bool (u0 == ([] : List UInt8))) ?_; intro a9 hF10; clear hF8
 have hF11 := hF10.atom ((u0 == ([] : List UInt8)) == false) (by kernel_rfl); clear hF10
 refine gp hF11 9 0 [] (u0 == ([] : List UInt8)) (str u0) rfl rfl ?_; intro a12 hF13; clear hF11
 refine gp hF13 10 0 [] (u0 == ([] : List UInt8)) (.int .i64 (u0.length : Int)) rfl rfl ?_; intro a14 hF15; clear hF13
 refine gp hF15 11 0 [] (u0 == ([] : List UInt8)) (.bool (decide ((u0.length : Int) > 16))) rfl rfl ?_; intro a16 hF17; clear hF15
 refine st hF17 (.bool ((u0 == ([] : List UInt8)) || (decide ((u0.length : Int) > 16)))) (nog rfl _) rfl (by kernel_rfl) (pk_or hF17 (g := []) (m := 0) (b := u0 == ([] : List UInt8)) (v := decide ((u0.length : Int) > 16)) rfl (by kernel_rfl) (by kernel_rfl) (by kernel_rfl) rfl) ?_; intro a18 hF19; clear hF17
 refine nlH (hQ4 _ _ ?_); clear hQ4 hQ4Q
 refine cd hF19 (t := (u0 == ([] : List UInt8)) || (decide ((u0.length : Int) > 16))) (by kernel_rfl) (fun hb20 => ?_) (fun hb20 => ?_)
 ·
  have hp21 := hp.1 hb20; clear hp
  have hF22 : Fr 50 [] [] a18 := hF19.reg; clear hF19
  refine sqH ?_; intro hQ23Q hQ23
  refine s1 hF22 2 (.bool false) ?_; intro a24 hF25; clear hF22
  refine nlH (hQ23 _ _ ?_); clear hQ23 hQ23Q
  refine wp_ret ?_
  refine thr ?_
  refine rt (fn := Tryd.f20) (v := .bool false) hF25 (re1 hF25 (fn := Tryd.f20) rfl (by kernel_rfl)) ?_
  exact ⟨false, rfl, hp21, hM0.below⟩
 ·
  have hp26 := hp.2 hb20; clear hp
  refine wp_skip ?_
  refine thn ?_
  refine wp_seq ?_
  have hF27 : Fr 50 [] [⟨0, [], str u0⟩] a18 := hF19.reg; clear hF19
  refine sqH ?_; intro hQ28Q hQ28
  refine s1 hF27 13 (str u0) ?_; intro a29 hF30; clear hF27
  refine s1 hF30 14 (.int .i64 (u0.length : Int)) ?_; intro a31 hF32; clear hF30
  refine s1 hF32 15 (.int .i64 0) ?_; intro a33 hF34; clear hF32
  refine nlH (hQ28 _ _ ?_); clear hQ28 hQ28Q
  refine wp_block ?_
  have hF35 : Fr 50 [] [⟨0, [], str u0⟩, ⟨14, [], .int .i64 (u0.length : Int)⟩, ⟨15, [], .int .i64 0⟩] a33 := hF34.reg; clear hF34
  have hF37 : Fr 50 [] [⟨0, [], str u0⟩, ⟨14, [], .int .i64 (u0.length : Int)⟩, ⟨15, [], .int .i64 0⟩] a33 := hF35.reg; clear hF35
  obtain ⟨inv36, mu36, hI40, hr39⟩ := hp26
  refine lp (ι := Int) (fun (s : Int) => [⟨0, [], str u0⟩, ⟨14, [], .int .i64 (u0.length : Int)⟩, ⟨15, [], .int .i64 s⟩]) (fun (s : Int) => []) (fun (s : Int) => Z) (fun (s : Int) => inv36 s) (fun (s : Int) => mu36 s) 0 hI40 (by exact hF37.reg) (by exact hM0) ?_
  rintro x15 hI38 a42 wd43 hF44 hM45
  have hF46 : Fr 50 [] [⟨0, [], str u0⟩, ⟨14, [], .int .i64 (u0.length : Int)⟩, ⟨15, [], .int .i64 x15⟩] a42 := hF44; clear hF44 hF37
  have hM47 : Mem w.heap.size [] w Z [] Z wd43 := hM45; clear hM45 hM0
  have hp48 := hr39 x15 hI38
  refine sqH ?_; intro hQ49Q hQ49
  refine s1 hF46 16 (.bool (decide (x15 < (u0.length : Int)))) ?_; intro a50 hF51; clear hF46
  refine nlH (hQ49 _ _ ?_); clear hQ49 hQ49Q
  refine wp_seq ?_
  refine cd hF51 (t := decide (x15 < (u0.length : Int))) (by kernel_rfl) (fun hb52 => ?_) (fun hb52 => ?_)
  ·
   have hp53 := hp48.1 hb52; clear hp48
   refine wp_skip ?_
   refine thn ?_
   refine wp_seq ?_
   refine wp_block ?_
   refine sqH ?_; intro hQ54Q hQ54
   refine s1 hF51 17 (.int .i64 x15) ?_; intro a55 hF56; clear hF51
   refine s1 hF56 3 (.int .i64 x15) ?_; intro a57 hF58; clear hF56
   refine nlH (hQ54 _ _ ?_); clear hQ54 hQ54Q
   refine sqH ?_; intro hQ59Q hQ59
   refine s1 hF58 18 (str u0) ?_; intro a60 hF61; clear hF58
   refine s1 hF61 19 (.int .i64 x15) ?_; intro a62 hF63; clear hF61
   have hc64 := hp53.1; have hp65 := hp53.2; clear hp53
   obtain ⟨c66, hq67⟩ : ∃ q, u0[x15.toNat]? = some q := ⟨_, List.getElem?_eq_getElem (by omega)⟩; have hp68 := hp65 c66 hq67
   refine st hF63 (.int .u8 (c66.toNat : Int)) (nog rfl _) rfl (by kernel_rfl) (stridx_run hF63 (k := .i64) rfl (by kernel_rfl) (by kernel_rfl) (by kernel_rfl) hc64.1 hq67) ?_; intro a69 hF70; clear hF63
   refine s1 hF70 4 (.int .u8 (c66.toNat : Int)) ?_; intro a71 hF72; clear hF70
   refine nlH (hQ59 _ _ ?_); clear hQ59 hQ59Q
   refine sqH ?_; intro hQ73Q hQ73
   refine s1 hF72 21 (.int .u8 (c66.toNat : Int)) ?_; intro a74 hF75; clear hF72
   refine s1 hF75 22 (.bool (decide ((c66.toNat : Int) ≥ 97))) ?_; intro a76 hF77; clear hF75
   refine s1 hF77 23 (.bool (decide ((c66.toNat : Int) ≥ 97))) ?_; intro a78 hF79; clear hF77
   have hF80 := hF79.atom ((decide ((c66.toNat : Int) ≥ 97)) == true) (by kernel_rfl); clear hF79
   refine gp hF80 24 0 [] (decide ((c66.toNat : Int) ≥ 97)) (.int .u8 (c66.toNat : Int)) rfl rfl ?_; intro a81 hF82; clear hF80
   refine gp hF82 25 0 [] (decide ((c66.toNat : Int) ≥ 97)) (.bool (decide ((c66.toNat : Int) ≤ 122))) rfl rfl ?_; intro a83 hF84; clear hF82
   refine st hF84 (.bool ((decide ((c66.toNat : Int) ≥ 97)) && (decide ((c66.toNat : Int) ≤ 122)))) (nog rfl _) rfl (by kernel_rfl) (pk_and hF84 (g := []) (m := 0) (b := decide ((c66.toNat : Int) ≥ 97)) (v := decide ((c66.toNat : Int) ≤ 122)) rfl (by kernel_rfl) (by kernel_rfl) (by kernel_rfl) rfl) ?_; intro a85 hF86; clear hF84
   refine s1 hF86 27 (.bool ((decide ((c66.toNat : Int) ≥ 97)) && (decide ((c66.toNat : Int) ≤ 122)))) ?_; intro a87 hF88; clear hF86
   have hF89 := hF88.atom (((decide ((c66.toNat : Int) ≥ 97)) && (decide ((c66.toNat : Int) ≤ 122))) == false) (by kernel_rfl); clear hF88
   refine gp hF89 28 1 [] ((decide ((c66.toNat : Int) ≥ 97)) && (decide ((c66.toNat : Int) ≤ 122))) (.int .u8 (c66.toNat : Int)) rfl rfl ?_; intro a90 hF91; clear hF89
   refine gp hF91 29 1 [] ((decide ((c66.toNat : Int) ≥ 97)) && (decide ((c66.toNat : Int) ≤ 122))) (.bool (decide ((c66.toNat : Int) ≥ 65))) rfl rfl ?_; intro a92 hF93; clear hF91
   refine gp hF93 30 1 [] ((decide ((c66.toNat : Int) ≥ 97)) && (decide ((c66.toNat : Int) ≤ 122))) (.bool (decide ((c66.toNat : Int) ≥ 65))) rfl rfl ?_; intro a94 hF95; clear hF93
   have hF96 := hF95.atom ((decide ((c66.toNat : Int) ≥ 65)) == true) (by kernel_rfl); clear hF95
   refine gp hF96 31 2 [1] (decide ((c66.toNat : Int) ≥ 65)) (.int .u8 (c66.toNat : Int)) rfl rfl ?_; intro a97 hF98; clear hF96
   refine gp hF98 32 2 [1] (decide ((c66.toNat : Int) ≥ 65)) (.bool (decide ((c66.toNat : Int) ≤ 90))) rfl rfl ?_; intro a99 hF100; clear hF98
   refine gd hF100 (.bool ((decide ((c66.toNat : Int) ≥ 65)) && (decide ((c66.toNat : Int) ≤ 90)))) (m := 1) (cj := []) (bj := (decide ((c66.toNat : Int) ≥ 97)) && (decide ((c66.toNat : Int) ≤ 122))) rfl rfl (by kernel_rfl) rfl (by kernel_rfl) (by kernel_rfl) (by kernel_rfl) (fun hg => pk_and hF100 (g := [1]) (m := 2) (b := decide ((c66.toNat : Int) ≥ 65)) (v := decide ((c66.toNat : Int) ≤ 90)) rfl (by kernel_rfl) (by kernel_rfl) (by kernel_rfl) hg) ?_; intro a101 hF102; clear hF100
   refine st hF102 (.bool (((decide ((c66.toNat : Int) ≥ 97)) && (decide ((c66.toNat : Int) ≤ 122))) || ((decide ((c66.toNat : Int) ≥ 65)) && (decide ((c66.toNat : Int) ≤ 90))))) (nog rfl _) rfl (by kernel_rfl) (pk_or hF102 (g := []) (m := 1) (b := (decide ((c66.toNat : Int) ≥ 97)) && (decide ((c66.toNat : Int) ≤ 122))) (v := (decide ((c66.toNat : Int) ≥ 65)) && (decide ((c66.toNat : Int) ≤ 90))) rfl (by kernel_rfl) (by kernel_rfl) (by kernel_rfl) rfl) ?_; intro a103 hF104; clear hF102
   refine s1 hF104 5 (.bool (((decide ((c66.toNat : Int) ≥ 97)) && (decide ((c66.toNat : Int) ≤ 122))) || ((decide ((c66.toNat : Int) ≥ 65)) && (decide ((c66.toNat : Int) ≤ 90))))) ?_; intro a105 hF106; clear hF104
   refine nlH (hQ73 _ _ ?_); clear hQ73 hQ73Q
   have hF107 : Fr 50 [] [⟨0, [], str u0⟩, ⟨3, [], .int .i64 x15⟩, ⟨4, [], .int .u8 (c66.toNat : Int)⟩, ⟨5, [], .bool (((decide ((c66.toNat : Int) ≥ 97)) && (decide ((c66.toNat : Int) ≤ 122))) || ((decide ((c66.toNat : Int) ≥ 65)) && (decide ((c66.toNat : Int) ≤ 90))))⟩, ⟨14, [], .int .i64 (u0.length : Int)⟩, ⟨15, [], .int .i64 x15⟩] a105 := hF106.reg; clear hF106
   refine sqH ?_; intro hQ108Q hQ108
   refine s1 hF107 35 (.bool (((decide ((c66.toNat : Int) ≥ 97)) && (decide ((c66.toNat : Int) ≤ 122))) || ((decide ((c66.toNat : Int) ≥ 65)) && (decide ((c66.toNat : Int) ≤ 90))))) ?_; intro a109 hF110; clear hF107
   refine s1 hF110 36 (.bool (!(((decide ((c66.toNat : Int) ≥ 97)) && (decide ((c66.toNat : Int) ≤ 122))) || ((decide ((c66.toNat : Int) ≥ 65)) && (decide ((c66.toNat : Int) ≤ 90)))))) ?_; intro a111 hF112; clear hF110
   refine s1 hF112 37 (.bool (!(((decide ((c66.toNat : Int) ≥ 97)) && (decide ((c66.toNat : Int) ≤ 122))) || ((decide ((c66.toNat : Int) ≥ 65)) && (decide ((c66.toNat : Int) ≤ 90)))))) ?_; intro a113 hF114; clear hF112
   have hF115 := hF114.atom ((!(((decide ((c66.toNat : Int) ≥ 97)) && (decide ((c66.toNat : Int) ≤ 122))) || ((decide ((c66.toNat : Int) ≥ 65)) && (decide ((c66.toNat : Int) ≤ 90))))) == true) (by kernel_rfl); clear hF114
   refine gp hF115 38 0 [] (!(((decide ((c66.toNat : Int) ≥ 97)) && (decide ((c66.toNat : Int) ≤ 122))) || ((decide ((c66.toNat : Int) ≥ 65)) && (decide ((c66.toNat : Int) ≤ 90))))) (.int .i64 x15) rfl rfl ?_; intro a116 hF117; clear hF115
   refine gp hF117 39 0 [] (!(((decide ((c66.toNat : Int) ≥ 97)) && (decide ((c66.toNat : Int) ≤ 122))) || ((decide ((c66.toNat : Int) ≥ 65)) && (decide ((c66.toNat : Int) ≤ 90))))) (.bool (x15 == 0)) rfl rfl ?_; intro a118 hF119; clear hF117
   refine gp hF119 40 0 [] (!(((decide ((c66.toNat : Int) ≥ 97)) && (decide ((c66.toNat : Int) ≤ 122))) || ((decide ((c66.toNat : Int) ≥ 65)) && (decide ((c66.toNat : Int) ≤ 90))))) (.bool (x15 == 0)) rfl rfl ?_; intro a120 hF121; clear hF119
   have hF122 := hF121.atom ((x15 == 0) == false) (by kernel_rfl); clear hF121
   refine gp hF122 41 1 [0] (x15 == 0) (.int .u8 (c66.toNat : Int)) rfl rfl ?_; intro a123 hF124; clear hF122
   refine gp hF124 42 1 [0] (x15 == 0) (.bool (decide ((c66.toNat : Int) < 48))) rfl rfl ?_; intro a125 hF126; clear hF124
   refine gd hF126 (.bool ((x15 == 0) || (decide ((c66.toNat : Int) < 48)))) (m := 0) (cj := []) (bj := !(((decide ((c66.toNat : Int) ≥ 97)) && (decide ((c66.toNat : Int) ≤ 122))) || ((decide ((c66.toNat : Int) ≥ 65)) && (decide ((c66.toNat : Int) ≤ 90))))) rfl rfl (by kernel_rfl) rfl (by kernel_rfl) (by kernel_rfl) (by kernel_rfl) (fun hg => pk_or hF126 (g := [0]) (m := 1) (b := x15 == 0) (v := decide ((c66.toNat : Int) < 48)) rfl (by kernel_rfl) (by kernel_rfl) (by kernel_rfl) hg) ?_; intro a127 hF128; clear hF126
   refine gp hF128 44 0 [] (!(((decide ((c66.toNat : Int) ≥ 97)) && (decide ((c66.toNat : Int) ≤ 122))) || ((decide ((c66.toNat : Int) ≥ 65)) && (decide ((c66.toNat : Int) ≤ 90))))) (.bool ((x15 == 0) || (decide ((c66.toNat : Int) < 48)))) rfl rfl ?_; intro a129 hF130; clear hF128
   have hF131 := hF130.atom (((x15 == 0) || (decide ((c66.toNat : Int) < 48))) == false) (by kernel_rfl); clear hF130
   refine gp hF131 45 2 [0] ((x15 == 0) || (decide ((c66.toNat : Int) < 48))) (.int .u8 (c66.toNat : Int)) rfl rfl ?_; intro a132 hF133; clear hF131
   refine gp hF133 46 2 [0] ((x15 == 0) || (decide ((c66.toNat : Int) < 48))) (.bool (decide ((c66.toNat : Int) > 57))) rfl rfl ?_; intro a134 hF135; clear hF133
   refine gd hF135 (.bool (((x15 == 0) || (decide ((c66.toNat : Int) < 48))) || (decide ((c66.toNat : Int) > 57)))) (m := 0) (cj := []) (bj := !(((decide ((c66.toNat : Int) ≥ 97)) && (decide ((c66.toNat : Int) ≤ 122))) || ((decide ((c66.toNat : Int) ≥ 65)) && (decide ((c66.toNat : Int) ≤ 90))))) rfl rfl (by kernel_rfl) rfl (by kernel_rfl) (by kernel_rfl) (by kernel_rfl) (fun hg => pk_or hF135 (g := [0]) (m := 2) (b := (x15 == 0) || (decide ((c66.toNat : Int) < 48))) (v := decide ((c66.toNat : Int) > 57)) rfl (by kernel_rfl) (by kernel_rfl) (by kernel_rfl) hg) ?_; intro a136 hF137; clear hF135
   refine st hF137 (.bool ((!(((decide ((c66.toNat : Int) ≥ 97)) && (decide ((c66.toNat : Int) ≤ 122))) || ((decide ((c66.toNat : Int) ≥ 65)) && (decide ((c66.toNat : Int) ≤ 90))))) && (((x15 == 0) || (decide ((c66.toNat : Int) < 48))) || (decide ((c66.toNat : Int) > 57))))) (nog rfl _) rfl (by kernel_rfl) (pk_and hF137 (g := []) (m := 0) (b := !(((decide ((c66.toNat : Int) ≥ 97)) && (decide ((c66.toNat : Int) ≤ 122))) || ((decide ((c66.toNat : Int) ≥ 65)) && (decide ((c66.toNat : Int) ≤ 90))))) (v := ((x15 == 0) || (decide ((c66.toNat : Int) < 48))) || (decide ((c66.toNat : Int) > 57))) rfl (by kernel_rfl) (by kernel_rfl) (by kernel_rfl) rfl) ?_; intro a138 hF139; clear hF137
   refine nlH (hQ108 _ _ ?_); clear hQ108 hQ108Q
   refine cd hF139 (t := (!(((decide ((c66.toNat : Int) ≥ 97)) && (decide ((c66.toNat : Int) ≤ 122))) || ((decide ((c66.toNat : Int) ≥ 65)) && (decide ((c66.toNat : Int) ≤ 90))))) && (((x15 == 0) || (decide ((c66.toNat : Int) < 48))) || (decide ((c66.toNat : Int) > 57)))) (by kernel_rfl) (fun hb140 => ?_) (fun hb140 => ?_)
   ·
    have hp141 := hp68.1 hb140; clear hp68
    have hF142 : Fr 50 [] [] a138 := hF139.reg; clear hF139
    refine sqH ?_; intro hQ143Q hQ143
    refine s1 hF142 2 (.bool false) ?_; intro a144 hF145; clear hF142
    refine nlH (hQ143 _ _ ?_); clear hQ143 hQ143Q
    refine wp_ret ?_
    refine ibr ?_
    refine thr ?_
    refine thr ?_
    refine ibr ?_
    refine thr ?_
    refine rt (fn := Tryd.f20) (v := .bool false) hF145 (re1 hF145 (fn := Tryd.f20) rfl (by kernel_rfl)) ?_
    exact ⟨false, rfl, hp141, hM47.below⟩
   ·
    have hp146 := hp68.2 hb140; clear hp68
    refine wp_skip ?_
    refine ibn ?_
    refine thn ?_
    have hF147 : Fr 50 [] [⟨0, [], str u0⟩, ⟨14, [], .int .i64 (u0.length : Int)⟩, ⟨15, [], .int .i64 x15⟩] a138 := hF139.reg; clear hF139
    refine rgH ?_; intro hQ148Q hQ148
    refine s1 hF147 49 (.int .i64 (w64 (x15 + 1))) ?_; intro a149 hF150; clear hF147
    refine s1 hF150 15 (.int .i64 (w64 (x15 + 1))) ?_; intro a151 hF152; clear hF150
    refine nlH (hQ148 _ _ ?_); clear hQ148 hQ148Q
    refine rd ?_
    exact ⟨w64 (x15 + 1), hp146.1, hp146.2, (hF152.reg).anyβ _ (by kernel_rfl), hM47.keep (List.Sublist.slnil)⟩
  ·
   have hp153 := hp48.2 hb52; clear hp48
   refine wp_exit ?_
   refine thx ?_
   refine thx ?_
   refine ibx ?_
   refine thn ?_
   refine sqH ?_; intro hQ154Q hQ154
   refine s1 hF51 2 (.bool true) ?_; intro a155 hF156; clear hF51
   refine nlH (hQ154 _ _ ?_); clear hQ154 hQ154Q
   refine wp_ret ?_
   refine rt (fn := Tryd.f20) (v := .bool true) hF156 (re1 hF156 (fn := Tryd.f20) rfl (by kernel_rfl)) ?_
   exact ⟨true, rfl, hp153, hM47.below⟩

set_option maxRecDepth 100000 in
set_option maxHeartbeats 0 in
theorem sgcd_walk (u0 : Int) (u1 : Int)  (Z : Fz) (w : World)  (hZ : Z.on w) {K : Int → Prop} (hp : sgcd_vc u0 u1 K) : Calls Tryd.prog 45 #[.int .i64 u0, .int .i64 u1] w fun e w' => ∃ r : Int, e = .returned (.int .i64 r) ∧ K r ∧ Below w.heap.size w w' := by
 refine enter0 Tryd.func45 rfl rfl (by kernel_rfl) ?_; intro a0 hF0; have hM0 := Mem.start w Z hZ; have hle0 := Fz.le.refl Z
 refine sqH ?_; intro hQ1Q hQ1
 refine s1 hF0 4 (.int .i64 0) ?_; intro a2 hF3; clear hF0
 refine nlH (hQ1 _ _ ?_); clear hQ1 hQ1Q
 refine wp_seq ?_
 refine wp_block ?_
 have hF4 : Fr 15 [] [⟨0, [], .int .i64 u0⟩, ⟨1, [], .int .i64 u1⟩] a2 := hF3.reg; clear hF3
 have hF6 : Fr 15 [] [⟨0, [], .int .i64 u0⟩, ⟨1, [], .int .i64 u1⟩] a2 := hF4.reg; clear hF4
 obtain ⟨inv5, mu5, hI9, hr8⟩ := hp
 refine lp (ι := Int × Int) (fun (s : Int × Int) => [⟨0, [], .int .i64 s.1⟩, ⟨1, [], .int .i64 s.2⟩]) (fun (s : Int × Int) => []) (fun (s : Int × Int) => Z) (fun (s : Int × Int) => inv5 s.1 s.2) (fun (s : Int × Int) => mu5 s.1 s.2) ⟨u0, u1⟩ hI9 (by exact hF6.reg) (by exact hM0) ?_
 rintro ⟨x0, x1⟩ hI7 a11 wd12 hF13 hM14
 have hF15 : Fr 15 [] [⟨0, [], .int .i64 x0⟩, ⟨1, [], .int .i64 x1⟩] a11 := hF13; clear hF13 hF6
 have hM16 : Mem w.heap.size [] w Z [] Z wd12 := hM14; clear hM14 hM0
 have hp17 := hr8 x0 x1 hI7
 refine wp_seq ?_
 refine sqH ?_; intro hQ18Q hQ18
 refine s1 hF15 5 (.int .i64 x1) ?_; intro a19 hF20; clear hF15
 refine s1 hF20 6 (.bool (x1 != 0)) ?_; intro a21 hF22; clear hF20
 refine nlH (hQ18 _ _ ?_); clear hQ18 hQ18Q
 refine cd hF22 (t := x1 != 0) (by kernel_rfl) (fun hb23 => ?_) (fun hb23 => ?_)
 ·
  have hp24 := hp17.1 hb23; clear hp17
  refine wp_skip ?_
  refine thn ?_
  refine wp_block ?_
  have hF25 : Fr 15 [] [⟨0, [], .int .i64 x0⟩, ⟨1, [], .int .i64 x1⟩] a21 := hF22.reg; clear hF22
  refine qrgH mixed (by kernel_rfl) hM16 ?_; intro hQ26Q hQ26
  refine q1 hF25 7 (.int .i64 x1) ?_; intro a28 hF29; clear hF25
  refine q1 hF29 8 (.int .i64 x0) ?_; intro a31 hF32; clear hF29
  refine q1 hF32 9 (.int .i64 x1) ?_; intro a34 hF35; clear hF32
  have hc37 := hp24.1; have hp38 := hp24.2; clear hp24
  refine qst hF35 (.int .i64 (x0.tmod x1)) (nog rfl _) rfl (by kernel_rfl) (fun v36 hC => rem_run hF35 (g := []) rfl (by kernel_rfl) (by kernel_rfl) hc37 rfl) ?_; intro a39 hF40; clear hF35
  refine q1 hF40 0 (.int .i64 x1) ?_; intro a42 hF43; clear hF40
  refine q1 hF43 1 (.int .i64 (x0.tmod x1)) ?_; intro a45 hF46; clear hF43
  refine qnl (hQ26 _ ?_); clear hQ26 hQ26Q; intro wd47 hM48; clear hM16
  refine ibn ?_
  refine rd ?_
  exact ⟨⟨x1, x0.tmod x1⟩, hp38.1, hp38.2, (hF46.reg).anyβ _ (by kernel_rfl), hM48.keep (List.Sublist.slnil)⟩
 ·
  have hp49 := hp17.2 hb23; clear hp17
  refine wp_exit ?_
  refine thx ?_
  refine thx ?_
  refine ibx ?_
  refine thn ?_
  refine sqH ?_; intro hQ50Q hQ50
  refine s1 hF22 11 (.int .i64 x0) ?_; intro a51 hF52; clear hF22
  refine s1 hF52 12 (.int .i64 x0) ?_; intro a53 hF54; clear hF52
  refine s1 hF54 13 (.int .i64 (w64 (0 - x0))) ?_; intro a55 hF56; clear hF54
  refine st hF56 (.int .i64 (max x0 (w64 (0 - x0)))) (nog rfl _) rfl (by kernel_rfl) (re_ (p0 hF56 (r := .ok (.value (.int .i64 (if x0 < (w64 (0 - x0)) then (w64 (0 - x0)) else x0))) wd12) (by kernel_rfl)) (by rw [imax])) ?_; intro a57 hF58; clear hF56
  refine s1 hF58 4 (.int .i64 (max x0 (w64 (0 - x0)))) ?_; intro a59 hF60; clear hF58
  refine nlH (hQ50 _ _ ?_); clear hQ50 hQ50Q
  refine wp_ret ?_
  refine rt (fn := Tryd.f45) (v := .int .i64 (max x0 (w64 (0 - x0)))) hF60 (re1 hF60 (fn := Tryd.f45) rfl (by kernel_rfl)) ?_
  exact ⟨max x0 (w64 (0 - x0)), rfl, hp49, hM16.below⟩

set_option maxRecDepth 100000 in
set_option maxHeartbeats 0 in
theorem imax_walk (u0 : List Int) (ao1 : Option Addr) (cap2 : Nat) (Z : Fz) (w : World) (hs3 : SlR (tyInt .i64) Z ao1 cap2 u0) (hZ : Z.on w) {K : Int → Prop} (hp : imax_vc u0 K) : Calls Tryd.prog 58 #[.slice ao1 u0.length cap2] w fun e w' => ∃ r : Int, e = .returned (.int .i64 r) ∧ K r ∧ Below w.heap.size w w' := by
 refine enter0 Tryd.func58 rfl rfl (by kernel_rfl) ?_; intro a0 hF0; have hM0 := Mem.start w Z hZ; have hle0 := Fz.le.refl Z
 have hp4 := hp (hs3.small); clear hp
 refine sqH ?_; intro hQ5Q hQ5
 refine s1 hF0 2 (.int .i64 0) ?_; intro a6 hF7; clear hF0
 refine nlH (hQ5 _ _ ?_); clear hQ5 hQ5Q
 refine wp_seq ?_
 refine sqH ?_; intro hQ8Q hQ8
 refine s1 hF7 5 (.slice ao1 u0.length cap2) ?_; intro a9 hF10; clear hF7
 refine s1 hF10 6 (.int .i64 (u0.length : Int)) ?_; intro a11 hF12; clear hF10
 refine s1 hF12 7 (.bool (decide ((u0.length : Int) < 1))) ?_; intro a13 hF14; clear hF12
 refine nlH (hQ8 _ _ ?_); clear hQ8 hQ8Q
 refine cd hF14 (t := decide ((u0.length : Int) < 1)) (by kernel_rfl) (fun hb15 => ?_) (fun hb15 => ?_)
 ·
  have hp16 := hp4.1 hb15; clear hp4
  exact False.elim hp16
 ·
  have hp17 := hp4.2 hb15; clear hp4
  refine wp_skip ?_
  refine thn ?_
  refine sqH ?_; intro hQ18Q hQ18
  refine s1 hF14 9 (.slice ao1 u0.length cap2) ?_; intro a19 hF20; clear hF14
  have hc21 := hp17.1; have hp22 := hp17.2; clear hp17
  refine ix hF20 (T := (tyInt .i64)) (xs := u0) hs3 (0 : Int) hc21 (k := .i64) (e := 3) (bytes := 8) (nog rfl _) rfl (by kernel_rfl) rfl (by kernel_rfl) (by kernel_rfl) (by kernel_rfl) ?_; intro b23 off24 cs25 q26 a30 hq27 hP28 hT29 hF31; clear hF20
  have hp32 := hp22 q26 hq27; clear hp22
  obtain rfl : cs25 = ([.int .i64 q26] : List Value) := hT29
  refine z1 hF31 hM0 11 hP28 0 (.int .i64 q26) rfl ?_; intro a33 hF34; clear hF31
  refine s1 hF34 3 (.int .i64 q26) ?_; intro a35 hF36; clear hF34
  refine nlH (hQ18 _ _ ?_); clear hQ18 hQ18Q
  refine wp_seq ?_
  refine sqH ?_; intro hQ37Q hQ37
  refine s1 hF36 4 (.int .i64 1) ?_; intro a38 hF39; clear hF36
  refine nlH (hQ37 _ _ ?_); clear hQ37 hQ37Q
  refine wp_block ?_
  have hF40 : Fr 25 [] [⟨0, [], .slice ao1 u0.length cap2⟩, ⟨3, [], .int .i64 q26⟩, ⟨4, [], .int .i64 1⟩] a38 := hF39.reg; clear hF39
  have hF42 : Fr 25 [] [⟨0, [], .slice ao1 u0.length cap2⟩, ⟨3, [], .int .i64 q26⟩, ⟨4, [], .int .i64 1⟩] a38 := hF40.reg; clear hF40
  obtain ⟨inv41, mu41, hI45, hr44⟩ := hp32
  refine lp (ι := Int × Int) (fun (s : Int × Int) => [⟨0, [], .slice ao1 u0.length cap2⟩, ⟨3, [], .int .i64 s.1⟩, ⟨4, [], .int .i64 s.2⟩]) (fun (s : Int × Int) => []) (fun (s : Int × Int) => Z) (fun (s : Int × Int) => inv41 s.1 s.2) (fun (s : Int × Int) => mu41 s.1 s.2) ⟨q26, 1⟩ hI45 (by exact hF42.reg) (by exact hM0) ?_
  rintro ⟨x3, x4⟩ hI43 a47 wd48 hF49 hM50
  have hF51 : Fr 25 [] [⟨0, [], .slice ao1 u0.length cap2⟩, ⟨3, [], .int .i64 x3⟩, ⟨4, [], .int .i64 x4⟩] a47 := hF49; clear hF49 hF42
  have hM52 : Mem w.heap.size [] w Z [] Z wd48 := hM50; clear hM50 hM0
  have hp53 := hr44 x3 x4 hI43
  refine wp_seq ?_
  refine sqH ?_; intro hQ54Q hQ54
  refine s1 hF51 12 (.int .i64 x4) ?_; intro a55 hF56; clear hF51
  refine s1 hF56 13 (.slice ao1 u0.length cap2) ?_; intro a57 hF58; clear hF56
  refine s1 hF58 14 (.int .i64 (u0.length : Int)) ?_; intro a59 hF60; clear hF58
  refine s1 hF60 15 (.bool (decide (x4 < (u0.length : Int)))) ?_; intro a61 hF62; clear hF60
  refine nlH (hQ54 _ _ ?_); clear hQ54 hQ54Q
  refine cd hF62 (t := decide (x4 < (u0.length : Int))) (by kernel_rfl) (fun hb63 => ?_) (fun hb63 => ?_)
  ·
   have hp64 := hp53.1 hb63; clear hp53
   refine wp_skip ?_
   refine thn ?_
   refine wp_seq ?_
   refine wp_block ?_
   refine rgH ?_; intro hQ65Q hQ65
   refine s1 hF62 18 (.int .i64 x3) ?_; intro a66 hF67; clear hF62
   refine s1 hF67 19 (.slice ao1 u0.length cap2) ?_; intro a68 hF69; clear hF67
   refine s1 hF69 20 (.int .i64 x4) ?_; intro a70 hF71; clear hF69
   have hc72 := hp64.1; have hp73 := hp64.2; clear hp64
   refine ix hF71 (T := (tyInt .i64)) (xs := u0) hs3 x4 hc72 (k := .i64) (e := 3) (bytes := 8) (nog rfl _) rfl (by kernel_rfl) rfl (by kernel_rfl) (by kernel_rfl) (by kernel_rfl) ?_; intro b74 off75 cs76 q77 a81 hq78 hP79 hT80 hF82; clear hF71
   have hp83 := hp73 q77 hq78; clear hp73
   obtain rfl : cs76 = ([.int .i64 q77] : List Value) := hT80
   refine z1 hF82 hM52 22 hP79 0 (.int .i64 q77) rfl ?_; intro a84 hF85; clear hF82
   refine st hF85 (.int .i64 (max x3 q77)) (nog rfl _) rfl (by kernel_rfl) (re_ (p0 hF85 (r := .ok (.value (.int .i64 (if x3 < q77 then q77 else x3))) wd48) (by kernel_rfl)) (by rw [imax])) ?_; intro a86 hF87; clear hF85
   refine s1 hF87 3 (.int .i64 (max x3 q77)) ?_; intro a88 hF89; clear hF87
   refine nlH (hQ65 _ _ ?_); clear hQ65 hQ65Q
   refine ibn ?_
   refine thn ?_
   refine rgH ?_; intro hQ90Q hQ90
   refine s1 hF89 16 (.int .i64 x4) ?_; intro a91 hF92; clear hF89
   refine s1 hF92 17 (.int .i64 (w64 (x4 + 1))) ?_; intro a93 hF94; clear hF92
   refine s1 hF94 4 (.int .i64 (w64 (x4 + 1))) ?_; intro a95 hF96; clear hF94
   refine nlH (hQ90 _ _ ?_); clear hQ90 hQ90Q
   refine rd ?_
   exact ⟨⟨max x3 q77, w64 (x4 + 1)⟩, hp83.1, hp83.2, (hF96.reg).anyβ _ (by kernel_rfl), hM52.keep (List.Sublist.slnil)⟩
  ·
   have hp97 := hp53.2 hb63; clear hp53
   refine wp_exit ?_
   refine thx ?_
   refine thx ?_
   refine ibx ?_
   refine thn ?_
   refine sqH ?_; intro hQ98Q hQ98
   refine s1 hF62 24 (.int .i64 x3) ?_; intro a99 hF100; clear hF62
   refine s1 hF100 2 (.int .i64 x3) ?_; intro a101 hF102; clear hF100
   refine nlH (hQ98 _ _ ?_); clear hQ98 hQ98Q
   refine wp_ret ?_
   refine rt (fn := Tryd.f58) (v := .int .i64 x3) hF102 (re1 hF102 (fn := Tryd.f58) rfl (by kernel_rfl)) ?_
   exact ⟨x3, rfl, hp97, hM52.below⟩

set_option maxRecDepth 100000 in
set_option maxHeartbeats 0 in
theorem imin_walk (u0 : List Int) (ao1 : Option Addr) (cap2 : Nat) (Z : Fz) (w : World) (hs3 : SlR (tyInt .i64) Z ao1 cap2 u0) (hZ : Z.on w) {K : Int → Prop} (hp : imin_vc u0 K) : Calls Tryd.prog 59 #[.slice ao1 u0.length cap2] w fun e w' => ∃ r : Int, e = .returned (.int .i64 r) ∧ K r ∧ Below w.heap.size w w' := by
 refine enter0 Tryd.func59 rfl rfl (by kernel_rfl) ?_; intro a0 hF0; have hM0 := Mem.start w Z hZ; have hle0 := Fz.le.refl Z
 have hp4 := hp (hs3.small); clear hp
 refine sqH ?_; intro hQ5Q hQ5
 refine s1 hF0 2 (.int .i64 0) ?_; intro a6 hF7; clear hF0
 refine nlH (hQ5 _ _ ?_); clear hQ5 hQ5Q
 refine wp_seq ?_
 refine sqH ?_; intro hQ8Q hQ8
 refine s1 hF7 5 (.slice ao1 u0.length cap2) ?_; intro a9 hF10; clear hF7
 refine s1 hF10 6 (.int .i64 (u0.length : Int)) ?_; intro a11 hF12; clear hF10
 refine s1 hF12 7 (.bool (decide ((u0.length : Int) < 1))) ?_; intro a13 hF14; clear hF12
 refine nlH (hQ8 _ _ ?_); clear hQ8 hQ8Q
 refine cd hF14 (t := decide ((u0.length : Int) < 1)) (by kernel_rfl) (fun hb15 => ?_) (fun hb15 => ?_)
 ·
  have hp16 := hp4.1 hb15; clear hp4
  exact False.elim hp16
 ·
  have hp17 := hp4.2 hb15; clear hp4
  refine wp_skip ?_
  refine thn ?_
  refine sqH ?_; intro hQ18Q hQ18
  refine s1 hF14 9 (.slice ao1 u0.length cap2) ?_; intro a19 hF20; clear hF14
  have hc21 := hp17.1; have hp22 := hp17.2; clear hp17
  refine ix hF20 (T := (tyInt .i64)) (xs := u0) hs3 (0 : Int) hc21 (k := .i64) (e := 3) (bytes := 8) (nog rfl _) rfl (by kernel_rfl) rfl (by kernel_rfl) (by kernel_rfl) (by kernel_rfl) ?_; intro b23 off24 cs25 q26 a30 hq27 hP28 hT29 hF31; clear hF20
  have hp32 := hp22 q26 hq27; clear hp22
  obtain rfl : cs25 = ([.int .i64 q26] : List Value) := hT29
  refine z1 hF31 hM0 11 hP28 0 (.int .i64 q26) rfl ?_; intro a33 hF34; clear hF31
  refine s1 hF34 3 (.int .i64 q26) ?_; intro a35 hF36; clear hF34
  refine nlH (hQ18 _ _ ?_); clear hQ18 hQ18Q
  refine wp_seq ?_
  refine sqH ?_; intro hQ37Q hQ37
  refine s1 hF36 4 (.int .i64 1) ?_; intro a38 hF39; clear hF36
  refine nlH (hQ37 _ _ ?_); clear hQ37 hQ37Q
  refine wp_block ?_
  have hF40 : Fr 25 [] [⟨0, [], .slice ao1 u0.length cap2⟩, ⟨3, [], .int .i64 q26⟩, ⟨4, [], .int .i64 1⟩] a38 := hF39.reg; clear hF39
  have hF42 : Fr 25 [] [⟨0, [], .slice ao1 u0.length cap2⟩, ⟨3, [], .int .i64 q26⟩, ⟨4, [], .int .i64 1⟩] a38 := hF40.reg; clear hF40
  obtain ⟨inv41, mu41, hI45, hr44⟩ := hp32
  refine lp (ι := Int × Int) (fun (s : Int × Int) => [⟨0, [], .slice ao1 u0.length cap2⟩, ⟨3, [], .int .i64 s.1⟩, ⟨4, [], .int .i64 s.2⟩]) (fun (s : Int × Int) => []) (fun (s : Int × Int) => Z) (fun (s : Int × Int) => inv41 s.1 s.2) (fun (s : Int × Int) => mu41 s.1 s.2) ⟨q26, 1⟩ hI45 (by exact hF42.reg) (by exact hM0) ?_
  rintro ⟨x3, x4⟩ hI43 a47 wd48 hF49 hM50
  have hF51 : Fr 25 [] [⟨0, [], .slice ao1 u0.length cap2⟩, ⟨3, [], .int .i64 x3⟩, ⟨4, [], .int .i64 x4⟩] a47 := hF49; clear hF49 hF42
  have hM52 : Mem w.heap.size [] w Z [] Z wd48 := hM50; clear hM50 hM0
  have hp53 := hr44 x3 x4 hI43
  refine wp_seq ?_
  refine sqH ?_; intro hQ54Q hQ54
  refine s1 hF51 12 (.int .i64 x4) ?_; intro a55 hF56; clear hF51
  refine s1 hF56 13 (.slice ao1 u0.length cap2) ?_; intro a57 hF58; clear hF56
  refine s1 hF58 14 (.int .i64 (u0.length : Int)) ?_; intro a59 hF60; clear hF58
  refine s1 hF60 15 (.bool (decide (x4 < (u0.length : Int)))) ?_; intro a61 hF62; clear hF60
  refine nlH (hQ54 _ _ ?_); clear hQ54 hQ54Q
  refine cd hF62 (t := decide (x4 < (u0.length : Int))) (by kernel_rfl) (fun hb63 => ?_) (fun hb63 => ?_)
  ·
   have hp64 := hp53.1 hb63; clear hp53
   refine wp_skip ?_
   refine thn ?_
   refine wp_seq ?_
   refine wp_block ?_
   refine rgH ?_; intro hQ65Q hQ65
   refine s1 hF62 18 (.int .i64 x3) ?_; intro a66 hF67; clear hF62
   refine s1 hF67 19 (.slice ao1 u0.length cap2) ?_; intro a68 hF69; clear hF67
   refine s1 hF69 20 (.int .i64 x4) ?_; intro a70 hF71; clear hF69
   have hc72 := hp64.1; have hp73 := hp64.2; clear hp64
   refine ix hF71 (T := (tyInt .i64)) (xs := u0) hs3 x4 hc72 (k := .i64) (e := 3) (bytes := 8) (nog rfl _) rfl (by kernel_rfl) rfl (by kernel_rfl) (by kernel_rfl) (by kernel_rfl) ?_; intro b74 off75 cs76 q77 a81 hq78 hP79 hT80 hF82; clear hF71
   have hp83 := hp73 q77 hq78; clear hp73
   obtain rfl : cs76 = ([.int .i64 q77] : List Value) := hT80
   refine z1 hF82 hM52 22 hP79 0 (.int .i64 q77) rfl ?_; intro a84 hF85; clear hF82
   refine st hF85 (.int .i64 (min x3 q77)) (nog rfl _) rfl (by kernel_rfl) (re_ (p0 hF85 (r := .ok (.value (.int .i64 (if q77 < x3 then q77 else x3))) wd48) (by kernel_rfl)) (by rw [imin])) ?_; intro a86 hF87; clear hF85
   refine s1 hF87 3 (.int .i64 (min x3 q77)) ?_; intro a88 hF89; clear hF87
   refine nlH (hQ65 _ _ ?_); clear hQ65 hQ65Q
   refine ibn ?_
   refine thn ?_
   refine rgH ?_; intro hQ90Q hQ90
   refine s1 hF89 16 (.int .i64 x4) ?_; intro a91 hF92; clear hF89
   refine s1 hF92 17 (.int .i64 (w64 (x4 + 1))) ?_; intro a93 hF94; clear hF92
   refine s1 hF94 4 (.int .i64 (w64 (x4 + 1))) ?_; intro a95 hF96; clear hF94
   refine nlH (hQ90 _ _ ?_); clear hQ90 hQ90Q
   refine rd ?_
   exact ⟨⟨min x3 q77, w64 (x4 + 1)⟩, hp83.1, hp83.2, (hF96.reg).anyβ _ (by kernel_rfl), hM52.keep (List.Sublist.slnil)⟩
  ·
   have hp97 := hp53.2 hb63; clear hp53
   refine wp_exit ?_
   refine thx ?_
   refine thx ?_
   refine ibx ?_
   refine thn ?_
   refine sqH ?_; intro hQ98Q hQ98
   refine s1 hF62 24 (.int .i64 x3) ?_; intro a99 hF100; clear hF62
   refine s1 hF100 2 (.int .i64 x3) ?_; intro a101 hF102; clear hF100
   refine nlH (hQ98 _ _ ?_); clear hQ98 hQ98Q
   refine wp_ret ?_
   refine rt (fn := Tryd.f59) (v := .int .i64 x3) hF102 (re1 hF102 (fn := Tryd.f59) rfl (by kernel_rfl)) ?_
   exact ⟨x3, rfl, hp97, hM52.below⟩

set_option maxRecDepth 100000 in
set_option maxHeartbeats 0 in
theorem bclone_walk (u0 : List Int) (ao1 : Option Addr) (cap2 : Nat) (Z : Fz) (w : World) (hs3 : SlR (tyInt .u8) Z ao1 cap2 u0) (hZ : Z.on w) {K : (List Int) → Prop} (hp : bclone_vc u0 K) : Calls Tryd.prog 12 #[.slice ao1 u0.length cap2] w fun e w' => ∃ (r : (List Int)) (ao1001 : Option Addr) (cap1002 : Nat) (Z' : Fz), e = .returned (.slice ao1001 r.length cap1002) ∧ K r ∧ Mem w.heap.size [] w Z [.own (tyInt .u8) 5 ao1001 cap1002 r] Z' w' := by
 refine enter0 Tryd.func12 rfl rfl (by kernel_rfl) ?_; intro a0 hF0; have hM0 := Mem.start w Z hZ; have hle0 := Fz.le.refl Z
 have hp4 := hp (hs3.small); clear hp
 refine sqH ?_; intro hQ5Q hQ5
 refine s1 hF0 2 (.slice none 0 0) ?_; intro a6 hF7; clear hF0
 refine nlH (hQ5 _ _ ?_); clear hQ5 hQ5Q
 refine wp_seq ?_
 refine sqH ?_; intro hQ8Q hQ8
 refine s1 hF7 3 (.slice ao1 u0.length cap2) ?_; intro a9 hF10; clear hF7
 obtain ⟨nb11, hnb12⟩ : ∃ b, ao1.isNone = b := ⟨_, rfl⟩; have hp13 := hp4 nb11 (by rw [← hnb12]; exact hs3.isNone); clear hp4
 refine st hF10 (.bool nb11) (nog rfl _) rfl (by kernel_rfl) (re_ (r := .ok (.value (.bool ao1.isNone)) w) (by cases ao1 <;> exact p0 hF10 (by kernel_rfl)) (by rw [hnb12])) ?_; intro a14 hF15; clear hF10
 refine nlH (hQ8 _ _ ?_); clear hQ8 hQ8Q
 refine cd hF15 (t := nb11) (by kernel_rfl) (fun hb16 => ?_) (fun hb16 => ?_)
 ·
  have hp17 := hp13.1 hb16; clear hp13
  refine sqH ?_; intro hQ18Q hQ18
  refine s1 hF15 2 (.slice none 0 0) ?_; intro a19 hF20; clear hF15
  refine nlH (hQ18 _ _ ?_); clear hQ18 hQ18Q
  refine wp_ret ?_
  refine thr ?_
  have hM21 : Mem w.heap.size [] w Z [.own (tyInt .u8) 5 none 0 ([] : List Int)] Z w := hM0.addNil (tyInt .u8) 5 (by decide); clear hM0
  refine rt (fn := Tryd.f12) (v := .slice none ([] : List Int).length 0) hF20 (re1 hF20 (fn := Tryd.f12) rfl (by kernel_rfl)) ?_
  exact ⟨([] : List Int), none, 0, Z, rfl, hp17, hM21.keep (List.Sublist.cons_cons _ (List.Sublist.slnil))⟩
 ·
  have hp22 := hp13.2 hb16; clear hp13
  refine wp_skip ?_
  refine thn ?_
  refine sqH ?_; intro hQ23Q hQ23
  refine sn hF15 hM0 (fun b => .slice (some ⟨b, 0, none⟩) 0 0) [] 5 (nog rfl _) rfl (by kernel_rfl) (by kernel_rfl) ?_; intro b24 a25 wd27 hF26 hM28; clear hF15 hM0
  refine s1 hF26 6 (.slice ao1 u0.length cap2) ?_; intro a29 hF30; clear hF26
  have hM31 : Mem w.heap.size [] w Z [.own (tyInt .u8) 5 (some ⟨b24, 0, none⟩) 0 ([] : List Int)] Z wd27 := hM28.rowOwn (T := (tyInt .u8)) (xs := ([] : List Int)) 0 rfl (by decide) (by show 0 ≤ lim; decide) (RepAll.nil _ _); clear hM28
  have hc32 := hp22.1; have hp33 := hp22.2; clear hp22
  refine ap hF30 hM31 0 (T := (tyInt .u8)) (xs := ([] : List Int)) (ys := u0) (ao := (some ⟨b24, 0, none⟩)) (cap := 0) (ao2 := ao1) (cap2 := cap2) (t := 24) (e := 5) (bytes := 1) (nog rfl _) rfl (by kernel_rfl) rfl (by kernel_rfl) (by kernel_rfl) (by kernel_rfl) rfl (Src.fz (by decide) hM31.fz hs3) hc32 ?_; intro ao34 cap35 a39 wd36 hnil37 hF40 hM38; clear hF30 hM31
  have hM41 : Mem w.heap.size [] w Z [.own (tyInt .u8) 5 ao34 cap35 (([] : List Int) ++ u0)] Z wd36 := hM38; clear hM38
  refine s1 hF40 2 (.slice ao34 (([] : List Int) ++ u0).length cap35) ?_; intro a42 hF43; clear hF40
  refine nlH (hQ23 _ _ ?_); clear hQ23 hQ23Q
  refine wp_ret ?_
  refine rt (fn := Tryd.f12) (v := .slice ao34 (([] : List Int) ++ u0).length cap35) hF43 (re1 hF43 (fn := Tryd.f12) rfl (by kernel_rfl)) ?_
  exact ⟨([] : List Int) ++ u0, ao34, cap35, Z, rfl, hp33, hM41.keep (List.Sublist.cons_cons _ (List.Sublist.slnil))⟩

set_option maxRecDepth 100000 in
set_option maxHeartbeats 0 in
theorem beq_walk (u0 : List Int) (u1 : List Int) (ao1 : Option Addr) (cap2 : Nat) (ao4 : Option Addr) (cap5 : Nat) (Z : Fz) (w : World) (hs3 : SlR (tyInt .u8) Z ao1 cap2 u0) (hs6 : SlR (tyInt .u8) Z ao4 cap5 u1) (hZ : Z.on w) {K : Bool → Prop} (hp : beq_vc u0 u1 K) : Calls Tryd.prog 15 #[.slice ao1 u0.length cap2, .slice ao4 u1.length cap5] w fun e w' => ∃ r : Bool, e = .returned (.bool r) ∧ K r ∧ Below w.heap.size w w' := by
 refine enter0 Tryd.func15 rfl rfl (by kernel_rfl) ?_; intro a0 hF0; have hM0 := Mem.start w Z hZ; have hle0 := Fz.le.refl Z
 have hp7 := hp (hs3.small); clear hp
 have hp8 := hp7 (hs6.small); clear hp7
 refine sqH ?_; intro hQ9Q hQ9
 refine s1 hF0 4 (.bool false) ?_; intro a10 hF11; clear hF0
 refine nlH (hQ9 _ _ ?_); clear hQ9 hQ9Q
 refine wp_seq ?_
 refine sqH ?_; intro hQ12Q hQ12
 refine s1 hF11 6 (.slice ao1 u0.length cap2) ?_; intro a13 hF14; clear hF11
 refine s1 hF14 7 (.int .i64 (u0.length : Int)) ?_; intro a15 hF16; clear hF14
 refine s1 hF16 8 (.slice ao4 u1.length cap5) ?_; intro a17 hF18; clear hF16
 refine s1 hF18 9 (.int .i64 (u1.length : Int)) ?_; intro a19 hF20; clear hF18
 refine s1 hF20 10 (.bool ((u0.length : Int) != (u1.length : Int))) ?_; intro a21 hF22; clear hF20
 refine nlH (hQ12 _ _ ?_); clear hQ12 hQ12Q
 refine cd hF22 (t := (u0.length : Int) != (u1.length : Int)) (by kernel_rfl) (fun hb23 => ?_) (fun hb23 => ?_)
 ·
  have hp24 := hp8.1 hb23; clear hp8
  refine sqH ?_; intro hQ25Q hQ25
  refine s1 hF22 4 (.bool false) ?_; intro a26 hF27; clear hF22
  refine nlH (hQ25 _ _ ?_); clear hQ25 hQ25Q
  refine wp_ret ?_
  refine thr ?_
  refine rt (fn := Tryd.f15) (v := .bool false) hF27 (re1 hF27 (fn := Tryd.f15) rfl (by kernel_rfl)) ?_
  exact ⟨false, rfl, hp24, hM0.below⟩
 ·
  have hp28 := hp8.2 hb23; clear hp8
  refine wp_skip ?_
  refine thn ?_
  refine wp_seq ?_
  refine sqH ?_; intro hQ29Q hQ29
  refine s1 hF22 11 (.slice ao1 u0.length cap2) ?_; intro a30 hF31; clear hF22
  refine s1 hF31 12 (.int .i64 (u0.length : Int)) ?_; intro a32 hF33; clear hF31
  refine s1 hF33 13 (.int .i64 0) ?_; intro a34 hF35; clear hF33
  refine nlH (hQ29 _ _ ?_); clear hQ29 hQ29Q
  refine wp_block ?_
  have hF36 : Fr 26 [] [⟨0, [], .slice ao1 u0.length cap2⟩, ⟨1, [], .slice ao4 u1.length cap5⟩, ⟨12, [], .int .i64 (u0.length : Int)⟩, ⟨13, [], .int .i64 0⟩] a34 := hF35.reg; clear hF35
  have hF38 : Fr 26 [] [⟨0, [], .slice ao1 u0.length cap2⟩, ⟨1, [], .slice ao4 u1.length cap5⟩, ⟨12, [], .int .i64 (u0.length : Int)⟩, ⟨13, [], .int .i64 0⟩] a34 := hF36.reg; clear hF36
  obtain ⟨inv37, mu37, hI41, hr40⟩ := hp28
  refine lp (ι := Int) (fun (s : Int) => [⟨0, [], .slice ao1 u0.length cap2⟩, ⟨1, [], .slice ao4 u1.length cap5⟩, ⟨12, [], .int .i64 (u0.length : Int)⟩, ⟨13, [], .int .i64 s⟩]) (fun (s : Int) => []) (fun (s : Int) => Z) (fun (s : Int) => inv37 s) (fun (s : Int) => mu37 s) 0 hI41 (by exact hF38.reg) (by exact hM0) ?_
  rintro x13 hI39 a43 wd44 hF45 hM46
  have hF47 : Fr 26 [] [⟨0, [], .slice ao1 u0.length cap2⟩, ⟨1, [], .slice ao4 u1.length cap5⟩, ⟨12, [], .int .i64 (u0.length : Int)⟩, ⟨13, [], .int .i64 x13⟩] a43 := hF45; clear hF45 hF38
  have hM48 : Mem w.heap.size [] w Z [] Z wd44 := hM46; clear hM46 hM0
  have hp49 := hr40 x13 hI39
  refine sqH ?_; intro hQ50Q hQ50
  refine s1 hF47 14 (.bool (decide (x13 < (u0.length : Int)))) ?_; intro a51 hF52; clear hF47
  refine nlH (hQ50 _ _ ?_); clear hQ50 hQ50Q
  refine wp_seq ?_
  refine cd hF52 (t := decide (x13 < (u0.length : Int))) (by kernel_rfl) (fun hb53 => ?_) (fun hb53 => ?_)
  ·
   have hp54 := hp49.1 hb53; clear hp49
   refine wp_skip ?_
   refine thn ?_
   refine wp_seq ?_
   refine wp_block ?_
   refine sqH ?_; intro hQ55Q hQ55
   refine s1 hF52 15 (.int .i64 x13) ?_; intro a56 hF57; clear hF52
   refine s1 hF57 5 (.int .i64 x13) ?_; intro a58 hF59; clear hF57
   refine nlH (hQ55 _ _ ?_); clear hQ55 hQ55Q
   have hF60 : Fr 26 [] [⟨0, [], .slice ao1 u0.length cap2⟩, ⟨1, [], .slice ao4 u1.length cap5⟩, ⟨5, [], .int .i64 x13⟩, ⟨12, [], .int .i64 (u0.length : Int)⟩, ⟨13, [], .int .i64 x13⟩] a58 := hF59.reg; clear hF59
   refine sqQH mixed (by kernel_rfl) hM48 ?_; intro hQ61Q hQ61
   refine q1 hF60 16 (.slice ao1 u0.length cap2) ?_; intro a63 hF64; clear hF60
   refine q1 hF64 17 (.int .i64 x13) ?_; intro a66 hF67; clear hF64
   have hc69 := hp54.1; have hp70 := hp54.2; clear hp54
   refine qix hF67 (T := (tyInt .u8)) (xs := u0) hs3 x13 hc69 (k := .i64) (e := 5) (bytes := 1) (nog rfl _) rfl (by kernel_rfl) rfl (by kernel_rfl) (by kernel_rfl) (by kernel_rfl) ?_; intro b71 off72 cs73 q74 a78 hq75 hP76 hT77 hF79; clear hF67
   have hp80 := hp70 q74 hq75; clear hp70
   obtain rfl : cs73 = ([.int .u8 q74] : List Value) := hT77
   refine qst hF79 (.int .u8 q74) (nog rfl _) rfl (by kernel_rfl) (fun v81 hC => lz hF79 hC.fz hP76 0 (g := []) rfl (by kernel_rfl) (by kernel_rfl) (by kernel_rfl) rfl) ?_; intro a82 hF83; clear hF79
   refine q1 hF83 20 (.slice ao4 u1.length cap5) ?_; intro a85 hF86; clear hF83
   refine q1 hF86 21 (.int .i64 x13) ?_; intro a88 hF89; clear hF86
   have hc91 := hp80.1; have hp92 := hp80.2; clear hp80
   refine qix hF89 (T := (tyInt .u8)) (xs := u1) hs6 x13 hc91 (k := .i64) (e := 5) (bytes := 1) (nog rfl _) rfl (by kernel_rfl) rfl (by kernel_rfl) (by kernel_rfl) (by kernel_rfl) ?_; intro b93 off94 cs95 q96 a100 hq97 hP98 hT99 hF101; clear hF89
   have hp102 := hp92 q96 hq97; clear hp92
   obtain rfl : cs95 = ([.int .u8 q96] : List Value) := hT99
   refine qst hF101 (.int .u8 q96) (nog rfl _) rfl (by kernel_rfl) (fun v103 hC => lz hF101 hC.fz hP98 0 (g := []) rfl (by kernel_rfl) (by kernel_rfl) (by kernel_rfl) rfl) ?_; intro a104 hF105; clear hF101
   refine q1 hF105 24 (.bool (q74 != q96)) ?_; intro a107 hF108; clear hF105
   refine qnl (hQ61 _ ?_); clear hQ61 hQ61Q; intro wd109 hM110; clear hM48
   refine cd hF108 (t := q74 != q96) (by kernel_rfl) (fun hb111 => ?_) (fun hb111 => ?_)
   ·
    have hp112 := hp102.1 hb111; clear hp102
    refine sqH ?_; intro hQ113Q hQ113
    refine s1 hF108 4 (.bool false) ?_; intro a114 hF115; clear hF108
    refine nlH (hQ113 _ _ ?_); clear hQ113 hQ113Q
    refine wp_ret ?_
    refine ibr ?_
    refine thr ?_
    refine thr ?_
    refine ibr ?_
    refine thr ?_
    refine rt (fn := Tryd.f15) (v := .bool false) hF115 (re1 hF115 (fn := Tryd.f15) rfl (by kernel_rfl)) ?_
    exact ⟨false, rfl, hp112, hM110.below⟩
   ·
    have hp116 := hp102.2 hb111; clear hp102
    refine wp_skip ?_
    refine ibn ?_
    refine thn ?_
    refine rgH ?_; intro hQ117Q hQ117
    refine s1 hF108 25 (.int .i64 (w64 (x13 + 1))) ?_; intro a118 hF119; clear hF108
    refine s1 hF119 13 (.int .i64 (w64 (x13 + 1))) ?_; intro a120 hF121; clear hF119
    refine nlH (hQ117 _ _ ?_); clear hQ117 hQ117Q
    refine rd ?_
    exact ⟨w64 (x13 + 1), hp116.1, hp116.2, (hF121.reg).anyβ _ (by kernel_rfl), hM110.keep (List.Sublist.slnil)⟩
  ·
   have hp122 := hp49.2 hb53; clear hp49
   refine wp_exit ?_
   refine thx ?_
   refine thx ?_
   refine ibx ?_
   refine thn ?_
   refine sqH ?_; intro hQ123Q hQ123
   refine s1 hF52 4 (.bool true) ?_; intro a124 hF125; clear hF52
   refine nlH (hQ123 _ _ ?_); clear hQ123 hQ123Q
   refine wp_ret ?_
   refine rt (fn := Tryd.f15) (v := .bool true) hF125 (re1 hF125 (fn := Tryd.f15) rfl (by kernel_rfl)) ?_
   exact ⟨true, rfl, hp122, hM48.below⟩

set_option maxRecDepth 100000 in
set_option maxHeartbeats 0 in
theorem sbounds_walk (u0 : Signal)  (Z : Fz) (w : World)  (hZ : Z.on w) {K : (Int × Int) → Prop} (hp : sbounds_vc u0 K) : Calls Tryd.prog 46 #[.agg #[str u0.Name, .int .i64 u0.Start, .int .i64 u0.Size, .bool u0.Back, .bool u0.Signed, .int .i64 u0.Mul, .int .i64 u0.Div, .int .i64 u0.Add, .int .i64 u0.Key]] w fun e w' => ∃ r : Int × Int, e = .returned (.tuple #[.int .i64 r.1, .int .i64 r.2]) ∧ K r ∧ Below w.heap.size w w' := by
 refine enter0 Tryd.func46 rfl rfl (by kernel_rfl) ?_; intro a0 hF0; have hM0 := Mem.start w Z hZ; have hle0 := Fz.le.refl Z
 refine sqH ?_; intro hQ1Q hQ1
 refine sn hF0 hM0 (fun b => .pointer (some ⟨b, 0, none⟩)) [str u0.Name, .int .i64 u0.Start, .int .i64 u0.Size, .bool u0.Back, .bool u0.Signed, .int .i64 u0.Mul, .int .i64 u0.Div, .int .i64 u0.Add, .int .i64 u0.Key] 23 (nog rfl _) rfl (by kernel_rfl) (by kernel_rfl) ?_; intro b2 a3 wd5 hF4 hM6; clear hF0 hM0
 refine s1 hF4 2 (.int .i64 0) ?_; intro a7 hF8; clear hF4
 refine s1 hF8 3 (.int .i64 0) ?_; intro a9 hF10; clear hF8
 refine nlH (hQ1 _ _ ?_); clear hQ1 hQ1Q
 refine wp_seq ?_
 refine sqH ?_; intro hQ11Q hQ11
 refine s1 hF10 4 (.pointer (some ⟨b2, 4, none⟩)) ?_; intro a12 hF13; clear hF10
 refine l1 hF13 hM6 5 0 4 (.bool u0.Signed) rfl rfl ?_; intro a14 hF15; clear hF13
 refine nlH (hQ11 _ _ ?_); clear hQ11 hQ11Q
 refine cd hF15 (t := u0.Signed) (by kernel_rfl) (fun hb16 => ?_) (fun hb16 => ?_)
 ·
  have hp17 := hp.1 hb16; clear hp
  have hF18 : Fr 19 [] [⟨1, [], .pointer (some ⟨b2, 0, none⟩)⟩] a14 := hF15.reg; clear hF15
  refine sqQH mixed (by kernel_rfl) hM6 ?_; intro hQ19Q hQ19
  refine q1 hF18 6 (.pointer (some ⟨b2, 2, none⟩)) ?_; intro a21 hF22; clear hF18
  refine qst hF22 (.int .i64 u0.Size) (nog rfl _) rfl (by kernel_rfl) (fun v23 hC => ld hF22 hC 0 (g := []) (b := b2) (off := 2) (cs := [str u0.Name, .int .i64 u0.Start, .int .i64 u0.Size, .bool u0.Back, .bool u0.Signed, .int .i64 u0.Mul, .int .i64 u0.Div, .int .i64 u0.Add, .int .i64 u0.Key]) (ty := 23) rfl (by kernel_rfl) (by kernel_rfl) (by kernel_rfl) (by kernel_rfl) rfl) ?_; intro a24 hF25; clear hF22
  refine q1 hF25 8 (.int .i64 (w64 (u0.Size - 1))) ?_; intro a27 hF28; clear hF25
  have hc30 := hp17.1; have hp31 := hp17.2; clear hp17
  refine qst hF28 (.int .i64 (bShl .i64 (-1) (w64 (u0.Size - 1)))) (nog rfl _) rfl (by kernel_rfl) (fun v29 hC => shl_run hF28 (g := []) (k' := .i64) rfl (by kernel_rfl) (by kernel_rfl) hc30 rfl) ?_; intro a32 hF33; clear hF28
  refine q1 hF33 10 (.pointer (some ⟨b2, 2, none⟩)) ?_; intro a35 hF36; clear hF33
  refine qst hF36 (.int .i64 u0.Size) (nog rfl _) rfl (by kernel_rfl) (fun v37 hC => ld hF36 hC 0 (g := []) (b := b2) (off := 2) (cs := [str u0.Name, .int .i64 u0.Start, .int .i64 u0.Size, .bool u0.Back, .bool u0.Signed, .int .i64 u0.Mul, .int .i64 u0.Div, .int .i64 u0.Add, .int .i64 u0.Key]) (ty := 23) rfl (by kernel_rfl) (by kernel_rfl) (by kernel_rfl) (by kernel_rfl) rfl) ?_; intro a38 hF39; clear hF36
  refine q1 hF39 12 (.int .i64 (w64 (u0.Size - 1))) ?_; intro a41 hF42; clear hF39
  have hc44 := hp31.1; have hp45 := hp31.2; clear hp31
  refine qst hF42 (.int .i64 (bShl .i64 1 (w64 (u0.Size - 1)))) (nog rfl _) rfl (by kernel_rfl) (fun v43 hC => shl_run hF42 (g := []) (k' := .i64) rfl (by kernel_rfl) (by kernel_rfl) hc44 rfl) ?_; intro a46 hF47; clear hF42
  refine q1 hF47 14 (.int .i64 (w64 ((bShl .i64 1 (w64 (u0.Size - 1))) - 1))) ?_; intro a49 hF50; clear hF47
  refine q1 hF50 2 (.int .i64 (bShl .i64 (-1) (w64 (u0.Size - 1)))) ?_; intro a52 hF53; clear hF50
  refine q1 hF53 3 (.int .i64 (w64 ((bShl .i64 1 (w64 (u0.Size - 1))) - 1))) ?_; intro a55 hF56; clear hF53
  refine qnl (hQ19 _ ?_); clear hQ19 hQ19Q; intro wd57 hM58; clear hM6
  refine wp_ret ?_
  refine thr ?_
  refine rt (fn := Tryd.f46) (v := .tuple #[.int .i64 (bShl .i64 (-1) (w64 (u0.Size - 1))), .int .i64 (w64 ((bShl .i64 1 (w64 (u0.Size - 1))) - 1))]) hF56 (re2 hF56 (fn := Tryd.f46) rfl (by kernel_rfl) (by kernel_rfl)) ?_
  exact ⟨(bShl .i64 (-1) (w64 (u0.Size - 1)), w64 ((bShl .i64 1 (w64 (u0.Size - 1))) - 1)), rfl, hp45, hM58.below⟩
 ·
  have hp59 := hp.2 hb16; clear hp
  refine wp_skip ?_
  refine thn ?_
  have hF60 : Fr 19 [] [⟨1, [], .pointer (some ⟨b2, 0, none⟩)⟩] a14 := hF15.reg; clear hF15
  refine sqQH mixed (by kernel_rfl) hM6 ?_; intro hQ61Q hQ61
  refine q1 hF60 15 (.pointer (some ⟨b2, 2, none⟩)) ?_; intro a63 hF64; clear hF60
  refine qst hF64 (.int .i64 u0.Size) (nog rfl _) rfl (by kernel_rfl) (fun v65 hC => ld hF64 hC 0 (g := []) (b := b2) (off := 2) (cs := [str u0.Name, .int .i64 u0.Start, .int .i64 u0.Size, .bool u0.Back, .bool u0.Signed, .int .i64 u0.Mul, .int .i64 u0.Div, .int .i64 u0.Add, .int .i64 u0.Key]) (ty := 23) rfl (by kernel_rfl) (by kernel_rfl) (by kernel_rfl) (by kernel_rfl) rfl) ?_; intro a66 hF67; clear hF64
  have hc69 := hp59.1; have hp70 := hp59.2; clear hp59
  refine qst hF67 (.int .i64 (bShl .i64 1 u0.Size)) (nog rfl _) rfl (by kernel_rfl) (fun v68 hC => shl_run hF67 (g := []) (k' := .i64) rfl (by kernel_rfl) (by kernel_rfl) hc69 rfl) ?_; intro a71 hF72; clear hF67
  refine q1 hF72 18 (.int .i64 (w64 ((bShl .i64 1 u0.Size) - 1))) ?_; intro a74 hF75; clear hF72
  refine q1 hF75 2 (.int .i64 0) ?_; intro a77 hF78; clear hF75
  refine q1 hF78 3 (.int .i64 (w64 ((bShl .i64 1 u0.Size) - 1))) ?_; intro a80 hF81; clear hF78
  refine qnl (hQ61 _ ?_); clear hQ61 hQ61Q; intro wd82 hM83; clear hM6
  refine wp_ret ?_
  refine rt (fn := Tryd.f46) (v := .tuple #[.int .i64 0, .int .i64 (w64 ((bShl .i64 1 u0.Size) - 1))]) hF81 (re2 hF81 (fn := Tryd.f46) rfl (by kernel_rfl) (by kernel_rfl)) ?_
  exact ⟨(0, w64 ((bShl .i64 1 u0.Size) - 1)), rfl, hp70, hM83.below⟩

set_option maxRecDepth 100000 in
set_option maxHeartbeats 0 in
theorem irev_walk (u0 : List Int) (ao1 : Option Addr) (cap2 : Nat) (B : Nat) (w0 : World) (Z0 : Fz) (Rr : List Res) (Z : Fz) (w : World) (hM0 : Mem B [] w0 Z0 ((.own (tyInt .i64) 3 ao1 cap2 u0) :: Rr) Z w) (hZ : Z.on w) {K : (List Int) → Prop} (hp : irev_vc u0 K) : Calls Tryd.prog 90 #[.slice ao1 u0.length cap2] w fun e w' => ∃ (r : (List Int)) (Z' : Fz), e = .returned (.tuple #[]) ∧ K r ∧ Fz.le Z Z' ∧ (r.length = u0.length) ∧ Mem B [] w0 Z0 ((.own (tyInt .i64) 3 ao1 cap2 r) :: Rr) Z' w' := by
 refine enter0 Tryd.func90 rfl rfl (by kernel_rfl) ?_; intro a0 hF0; have hle0 := Fz.le.refl Z
 have hp3 := hp (hM0.ownSmall 0 rfl); clear hp
 refine sqH ?_; intro hQ4Q hQ4
 refine s1 hF0 4 (.slice ao1 u0.length cap2) ?_; intro a5 hF6; clear hF0
 refine s1 hF6 5 (.int .i64 (u0.length : Int)) ?_; intro a7 hF8; clear hF6
 refine s1 hF8 6 (.int .i64 (w64 ((u0.length : Int) - 1))) ?_; intro a9 hF10; clear hF8
 refine s1 hF10 2 (.int .i64 0) ?_; intro a11 hF12; clear hF10
 refine s1 hF12 3 (.int .i64 (w64 ((u0.length : Int) - 1))) ?_; intro a13 hF14; clear hF12
 refine nlH (hQ4 _ _ ?_); clear hQ4 hQ4Q
 refine wp_block ?_
 have hF15 : Fr 28 [] [⟨0, [], .slice ao1 u0.length cap2⟩, ⟨2, [], .int .i64 0⟩, ⟨3, [], .int .i64 (w64 ((u0.length : Int) - 1))⟩] a13 := hF14.reg; clear hF14
 have hF17 : Fr 28 [] [⟨0, [], .slice ao1 u0.length cap2⟩, ⟨2, [], .int .i64 0⟩, ⟨3, [], .int .i64 (w64 ((u0.length : Int) - 1))⟩] a13 := hF15.reg; clear hF15
 obtain ⟨inv16, mu16, hI20, hr19⟩ := hp3
 refine lp (ι := Int × Int × (List Int)) (fun (s : Int × Int × (List Int)) => [⟨0, [], .slice ao1 s.2.2.length cap2⟩, ⟨2, [], .int .i64 s.1⟩, ⟨3, [], .int .i64 s.2.1⟩]) (fun (s : Int × Int × (List Int)) => ((.own (tyInt .i64) 3 ao1 cap2 s.2.2) :: Rr)) (fun (s : Int × Int × (List Int)) => Z) (fun (s : Int × Int × (List Int)) => inv16 s.1 s.2.1 s.2.2) (fun (s : Int × Int × (List Int)) => mu16 s.1 s.2.1 s.2.2) ⟨0, w64 ((u0.length : Int) - 1), u0⟩ hI20 (by exact hF17.reg) (by exact hM0) ?_
 rintro ⟨x2, x3, zao1⟩ hI18 a22 wd23 hF24 hM25
 have hF26 : Fr 28 [] [⟨0, [], .slice ao1 zao1.length cap2⟩, ⟨2, [], .int .i64 x2⟩, ⟨3, [], .int .i64 x3⟩] a22 := hF24; clear hF24 hF17
 have hM27 : Mem B [] w0 Z0 ((.own (tyInt .i64) 3 ao1 cap2 zao1) :: Rr) Z wd23 := hM25; clear hM25 hM0
 have hp28 := hr19 x2 x3 zao1 hI18
 refine wp_seq ?_
 refine sqH ?_; intro hQ29Q hQ29
 refine s1 hF26 7 (.int .i64 x2) ?_; intro a30 hF31; clear hF26
 refine s1 hF31 8 (.int .i64 x3) ?_; intro a32 hF33; clear hF31
 refine s1 hF33 9 (.bool (decide (x2 < x3))) ?_; intro a34 hF35; clear hF33
 refine nlH (hQ29 _ _ ?_); clear hQ29 hQ29Q
 refine cd hF35 (t := decide (x2 < x3)) (by kernel_rfl) (fun hb36 => ?_) (fun hb36 => ?_)
 ·
  have hp37 := hp28.1 hb36; clear hp28
  refine wp_skip ?_
  refine thn ?_
  refine wp_seq ?_
  refine wp_block ?_
  have hF38 : Fr 28 [] [⟨0, [], .slice ao1 zao1.length cap2⟩, ⟨2, [], .int .i64 x2⟩, ⟨3, [], .int .i64 x3⟩] a34 := hF35.reg; clear hF35
  have hcd6_0 := hp37.1; have hp85 := hp37.2; clear hp37
  obtain ⟨qd7_0, hqd7_0⟩ : ∃ q, zao1[x3.toNat]? = some q := ⟨_, List.getElem?_eq_getElem (by omega)⟩; have hp86 := hp85 qd7_0 hqd7_0; clear hp85
  have hcd10_0 := hp86.1; have hp87 := hp86.2; clear hp86
  obtain ⟨qd11_0, hqd11_0⟩ : ∃ q, zao1[x2.toNat]? = some q := ⟨_, List.getElem?_eq_getElem (by omega)⟩; have hp88 := hp87 qd11_0 hqd11_0; clear hp87
  have hcd12_0 := hp88.1; have hp89 := hp88.2; clear hp88
  have hcd14_0 := hp89.1; have hp90 := hp89.2; clear hp89
  refine any_invE mixed [[], [], [], [], [], [], [4, 5], [6], [], [], [8, 9], [10], [0, 1, 4, 5, 6, 7, 11], [0, 1, 4, 5, 6, 7, 11, 12], [0, 1, 2, 3, 4, 5, 6, 7, 8, 9, 10, 11, 12, 13], [0, 1, 2, 3, 4, 5, 6, 7, 8, 9, 10, 11, 12, 13, 14]] 16 (fun S a w1 => ∃ (g51 : Nat) (g64 : Nat) (g73 : Nat) (g79 : Nat) (ud14 : Value) (ud15 : Value) (ud16 : Value) (ud17 : Value) (ud18 : Value) (ud19 : Value) (ud20 : Value) (ud21 : Value) (ud22 : Value) (ud23 : Value) (ud24 : Value) (ud25 : Value) (ud26 : Value) (ud27 : Value) (rh0 : Res), Fz.le Z Z ∧ Fr 28 [] [⟨0, [], .slice ao1 zao1.length cap2⟩, ⟨2, [], .int .i64 x2⟩, ⟨3, [], .int .i64 x3⟩, ⟨14, [], ud14⟩, ⟨15, [], ud15⟩, ⟨16, [], ud16⟩, ⟨17, [], ud17⟩, ⟨18, [], ud18⟩, ⟨19, [], ud19⟩, ⟨20, [], ud20⟩, ⟨21, [], ud21⟩, ⟨22, [], ud22⟩, ⟨23, [], ud23⟩, ⟨24, [], ud24⟩, ⟨25, [], ud25⟩, ⟨26, [], ud26⟩, ⟨27, [], ud27⟩] a ∧ Mem B [] w0 Z0 (rh0 :: Rr) Z w1 ∧ (S 0 = true → ud14 = .slice ao1 zao1.length cap2) ∧ (S 1 = true → ud15 = .int .i64 x2) ∧ (S 2 = true → ud16 = .slice ao1 zao1.length cap2) ∧ (S 3 = true → ud17 = .int .i64 x3) ∧ (S 4 = true → ud18 = .slice ao1 zao1.length cap2) ∧ (S 5 = true → ud19 = .int .i64 x3) ∧ (S 6 = true → ud20 = .pointer (some ⟨g51, x3.toNat * 1, none⟩)) ∧ (S 7 = true → ud21 = .int .i64 qd7_0) ∧ (S 8 = true → ud22 = .slice ao1 zao1.length cap2) ∧ (S 9 = true → ud23 = .int .i64 x2) ∧ (S 10 = true → ud24 = .pointer (some ⟨g64, x2.toNat * 1, none⟩)) ∧ (S 11 = true → ud25 = .int .i64 qd11_0) ∧ (S 12 = true → ud26 = .pointer (some ⟨g73, x2.toNat * 1, none⟩)) ∧ (S 14 = true → ud27 = .pointer (some ⟨g79, x3.toNat * 1, none⟩)) ∧ (S 13 = false → rh0 = .own (tyInt .i64) 3 ao1 cap2 zao1) ∧ (S 13 = true → S 15 = false → rh0 = .own (tyInt .i64) 3 ao1 cap2 (zao1.set x2.toNat qd7_0)) ∧ (S 15 = true → rh0 = .own (tyInt .i64) 3 ao1 cap2 ((zao1.set x2.toNat qd7_0).set x3.toNat qd11_0)) ∧ (S 6 = true → ao1 = some ⟨g51, 0, none⟩) ∧ (S 10 = true → ao1 = some ⟨g64, 0, none⟩) ∧ (S 12 = true → ao1 = some ⟨g73, 0, none⟩) ∧ (S 14 = true → ao1 = some ⟨g79, 0, none⟩)) ?h0 ?hs ?hE
  case h0 =>
   have hF92 := hF38.any 14
   have hF93 := hF92.any 15
   have hF94 := hF93.any 16
   have hF95 := hF94.any 17
   have hF96 := hF95.any 18
   have hF97 := hF96.any 19
   have hF98 := hF97.any 20
   have hF99 := hF98.any 21
   have hF100 := hF99.any 22
   have hF101 := hF100.any 23
   have hF102 := hF101.any 24
   have hF103 := hF102.any 25
   have hF104 := hF103.any 26
   have hF105 := hF104.any 27
   have hM106 := (hM27.perm lpr).drew
   exact ⟨0, 0, 0, 0, a34.tmps.getD 14 undef, a34.tmps.getD 15 undef, a34.tmps.getD 16 undef, a34.tmps.getD 17 undef, a34.tmps.getD 18 undef, a34.tmps.getD 19 undef, a34.tmps.getD 20 undef, a34.tmps.getD 21 undef, a34.tmps.getD 22 undef, a34.tmps.getD 23 undef, a34.tmps.getD 24 undef, a34.tmps.getD 25 undef, a34.tmps.getD 26 undef, a34.tmps.getD 27 undef, .own (tyInt .i64) 3 ao1 cap2 zao1, Fz.le.refl _, hF105.reg, hM106, ff, ff, ff, ff, ff, ff, ff, ff, ff, ff, ff, ff, ff, ff, kf, ff, ff, ff, ff, ff, ff⟩
  case hs =>
   intro S hcl i o hil hi hSi hpre a w1 hI; refine Go.Sy.hid ?_; intro G hG; obtain ⟨g51, g64, g73, g79, ud14, ud15, ud16, ud17, ud18, ud19, ud20, ud21, ud22, ud23, ud24, ud25, ud26, ud27, rh0, hle91, hFx, hMx, cu14, cu15, cu16, cu17, cu18, cu19, cu20, cu21, cu22, cu23, cu24, cu25, cu26, cu27, cr0_0, cr0_1, cr0_2, cf0, cf1, cf2, hI⟩ := hI; have cf3 := hI; clear hI
   have hcase : i = 0 ∨ i = 1 ∨ i = 2 ∨ i = 3 ∨ i = 4 ∨ i = 5 ∨ i = 6 ∨ i = 7 ∨ i = 8 ∨ i = 9 ∨ i = 10 ∨ i = 11 ∨ i = 12 ∨ i = 13 ∨ i = 14 ∨ i = 15 := by clear hi; omega
   rcases hcase with rfl | rfl | rfl | rfl | rfl | rfl | rfl | rfl | rfl | rfl | rfl | rfl | rfl | rfl | rfl | rfl
   ·
    obtain rfl := oj hi
    have hx0 := hSi
    have hx12 := ngF hcl 12 0 hx0
    have hx13 := ngF hcl 13 0 hx0
    have hx14 := ngF hcl 14 0 hx0
    have hx15 := ngF hcl 15 0 hx0
    obtain rfl := cr0_0 hx13
    refine hG (any_step ?_); clear hG G; intro A J hJ
    have hle0 := Fz.le.trans hle0 hle91
    refine s1 hFx 14 (.slice ao1 zao1.length cap2) ?_; intro a107 hF108; clear hFx
    refine nl (qnI (hJ _ _ ?_)); clear hJ J
    exact ⟨g51, g64, g73, g79, .slice ao1 zao1.length cap2, ud15, ud16, ud17, ud18, ud19, ud20, ud21, ud22, ud23, ud24, ud25, ud26, ud27, .own (tyInt .i64) 3 ao1 cap2 zao1, hle91, hF108.reg, hMx.perm lpr, kf, cu15, cu16, cu17, cu18, cu19, cu20, cu21, cu22, cu23, cu24, cu25, (nt hx12), (nt hx14), kf, (fun h _ => nt hx13 h), (nt hx15), cf0, cf1, (nt hx12), (nt hx14)⟩
   ·
    obtain rfl := oj hi
    have hx1 := hSi
    have hx12 := ngF hcl 12 1 hx1
    have hx13 := ngF hcl 13 1 hx1
    have hx14 := ngF hcl 14 1 hx1
    have hx15 := ngF hcl 15 1 hx1
    obtain rfl := cr0_0 hx13
    refine hG (any_step ?_); clear hG G; intro A J hJ
    have hle0 := Fz.le.trans hle0 hle91
    refine s1 hFx 15 (.int .i64 x2) ?_; intro a110 hF111; clear hFx
    refine nl (qnI (hJ _ _ ?_)); clear hJ J
    exact ⟨g51, g64, g73, g79, ud14, .int .i64 x2, ud16, ud17, ud18, ud19, ud20, ud21, ud22, ud23, ud24, ud25, ud26, ud27, .own (tyInt .i64) 3 ao1 cap2 zao1, hle91, hF111.reg, hMx.perm lpr, cu14, kf, cu16, cu17, cu18, cu19, cu20, cu21, cu22, cu23, cu24, cu25, (nt hx12), (nt hx14), kf, (fun h _ => nt hx13 h), (nt hx15), cf0, cf1, (nt hx12), (nt hx14)⟩
   ·
    obtain rfl := oj hi
    have hx2 := hSi
    have hx14 := ngF hcl 14 2 hx2
    have hx15 := ngF hcl 15 2 hx2
    refine hG (any_step ?_); clear hG G; intro A J hJ
    have hle0 := Fz.le.trans hle0 hle91
    refine s1 hFx 16 (.slice ao1 zao1.length cap2) ?_; intro a113 hF114; clear hFx
    refine nl (qnI (hJ _ _ ?_)); clear hJ J
    exact ⟨g51, g64, g73, g79, ud14, ud15, .slice ao1 zao1.length cap2, ud17, ud18, ud19, ud20, ud21, ud22, ud23, ud24, ud25, ud26, ud27, rh0, hle91, hF114.reg, hMx.perm lpr, cu14, cu15, kf, cu17, cu18, cu19, cu20, cu21, cu22, cu23, cu24, cu25, cu26, (nt hx14), cr0_0, cr0_1, (nt hx15), cf0, cf1, cf2, (nt hx14)⟩
   ·
    obtain rfl := oj hi
    have hx3 := hSi
    have hx14 := ngF hcl 14 3 hx3
    have hx15 := ngF hcl 15 3 hx3
    refine hG (any_step ?_); clear hG G; intro A J hJ
    have hle0 := Fz.le.trans hle0 hle91
    refine s1 hFx 17 (.int .i64 x3) ?_; intro a116 hF117; clear hFx
    refine nl (qnI (hJ _ _ ?_)); clear hJ J
    exact ⟨g51, g64, g73, g79, ud14, ud15, ud16, .int .i64 x3, ud18, ud19, ud20, ud21, ud22, ud23, ud24, ud25, ud26, ud27, rh0, hle91, hF117.reg, hMx.perm lpr, cu14, cu15, cu16, kf, cu18, cu19, cu20, cu21, cu22, cu23, cu24, cu25, cu26, (nt hx14), cr0_0, cr0_1, (nt hx15), cf0, cf1, cf2, (nt hx14)⟩
   ·
    obtain rfl := oj hi
    have hx4 := hSi
    have hx6 := ngF hcl 6 4 hx4
    have hx7 := ngF hcl 7 6 hx6
    have hx12 := ngF hcl 12 4 hx4
    have hx13 := ngF hcl 13 4 hx4
    have hx14 := ngF hcl 14 4 hx4
    have hx15 := ngF hcl 15 4 hx4
    obtain rfl := cr0_0 hx13
    refine hG (any_step ?_); clear hG G; intro A J hJ
    have hle0 := Fz.le.trans hle0 hle91
    refine s1 hFx 18 (.slice ao1 zao1.length cap2) ?_; intro a119 hF120; clear hFx
    refine nl (qnI (hJ _ _ ?_)); clear hJ J
    exact ⟨g51, g64, g73, g79, ud14, ud15, ud16, ud17, .slice ao1 zao1.length cap2, ud19, ud20, ud21, ud22, ud23, ud24, ud25, ud26, ud27, .own (tyInt .i64) 3 ao1 cap2 zao1, hle91, hF120.reg, hMx.perm lpr, cu14, cu15, cu16, cu17, kf, cu19, (nt hx6), (nt hx7), cu22, cu23, cu24, cu25, (nt hx12), (nt hx14), kf, (fun h _ => nt hx13 h), (nt hx15), (nt hx6), cf1, (nt hx12), (nt hx14)⟩
   ·
    obtain rfl := oj hi
    have hx5 := hSi
    have hx6 := ngF hcl 6 5 hx5
    have hx7 := ngF hcl 7 6 hx6
    have hx12 := ngF hcl 12 5 hx5
    have hx13 := ngF hcl 13 5 hx5
    have hx14 := ngF hcl 14 5 hx5
    have hx15 := ngF hcl 15 5 hx5
    obtain rfl := cr0_0 hx13
    refine hG (any_step ?_); clear hG G; intro A J hJ
    have hle0 := Fz.le.trans hle0 hle91
    refine s1 hFx 19 (.int .i64 x3) ?_; intro a122 hF123; clear hFx
    refine nl (qnI (hJ _ _ ?_)); clear hJ J
    exact ⟨g51, g64, g73, g79, ud14, ud15, ud16, ud17, ud18, .int .i64 x3, ud20, ud21, ud22, ud23, ud24, ud25, ud26, ud27, .own (tyInt .i64) 3 ao1 cap2 zao1, hle91, hF123.reg, hMx.perm lpr, cu14, cu15, cu16, cu17, cu18, kf, (nt hx6), (nt hx7), cu22, cu23, cu24, cu25, (nt hx12), (nt hx14), kf, (fun h _ => nt hx13 h), (nt hx15), (nt hx6), cf1, (nt hx12), (nt hx14)⟩
   ·
    obtain rfl := oj hi
    have hx5 := hpre 5 (by kernel_rfl)
    have hx4 := hpre 4 (by kernel_rfl)
    have hx6 := hSi
    have hx7 := ngF hcl 7 6 hx6
    have hx12 := ngF hcl 12 6 hx6
    have hx13 := ngF hcl 13 6 hx6
    have hx14 := ngF hcl 14 6 hx6
    have hx15 := ngF hcl 15 6 hx6
    obtain rfl := cu18 hx4
    obtain rfl := cu19 hx5
    obtain rfl := cr0_0 hx13
    refine hG (any_step ?_); clear hG G; intro A J hJ
    have hle0 := Fz.le.trans hle0 hle91
    refine ixo hFx hMx 0 (T := (tyInt .i64)) (xs := zao1) x3 (by simpa only [List.length_set] using hcd6_0) (k := .i64) (e := 3) (bytes := 8) (nog rfl _) rfl (by kernel_rfl) rfl (by kernel_rfl) (by kernel_rfl) rfl (by kernel_rfl) ?_; intro g125 a127 hg126 hF128; clear hFx
    refine nl (qnI (hJ _ _ ?_)); clear hJ J
    exact ⟨g125, g64, g73, g79, ud14, ud15, ud16, ud17, .slice ao1 zao1.length cap2, .int .i64 x3, .pointer (some ⟨g125, x3.toNat * 1, none⟩), ud21, ud22, ud23, ud24, ud25, ud26, ud27, .own (tyInt .i64) 3 ao1 cap2 zao1, hle91, hF128.reg, hMx.perm lpr, cu14, cu15, cu16, cu17, kf, kf, kf, (nt hx7), cu22, cu23, cu24, cu25, (nt hx12), (nt hx14), kf, (fun h _ => nt hx13 h), (nt hx15), (fun _ => hg126), cf1, (nt hx12), (nt hx14)⟩
   ·
    obtain rfl := oj hi
    have hx6 := hpre 6 (by kernel_rfl)
    have hx5 := hcl 6 5 (by kernel_rfl) hx6
    have hx4 := hcl 6 4 (by kernel_rfl) hx6
    have hx7 := hSi
    have hx12 := ngF hcl 12 7 hx7
    have hx13 := ngF hcl 13 7 hx7
    have hx14 := ngF hcl 14 7 hx7
    have hx15 := ngF hcl 15 7 hx7
    obtain rfl := cu18 hx4
    obtain rfl := cu19 hx5
    obtain rfl := cu20 hx6
    obtain rfl := cr0_0 hx13
    refine hG (any_step ?_); clear hG G; intro A J hJ
    have hle0 := Fz.le.trans hle0 hle91
    have hs130 := cf0 hx6
    obtain ⟨cs131, hT132, hcl133⟩ := own_elx hMx 0 (T := (tyInt .i64)) (xs := zao1) rfl hs130 x3.toNat hqd7_0
    obtain rfl : cs131 = ([.int .i64 qd7_0] : List Value) := hT132
    refine lc1 hFx 21 (.int .i64 qd7_0) (hcl133 0 _ rfl) rfl ?_; intro a134 hF135; clear hFx
    refine nl (qnI (hJ _ _ ?_)); clear hJ J
    exact ⟨g51, g64, g73, g79, ud14, ud15, ud16, ud17, .slice ao1 zao1.length cap2, .int .i64 x3, .pointer (some ⟨g51, x3.toNat * 1, none⟩), .int .i64 qd7_0, ud22, ud23, ud24, ud25, ud26, ud27, .own (tyInt .i64) 3 ao1 cap2 zao1, hle91, hF135.reg, hMx.perm lpr, cu14, cu15, cu16, cu17, kf, kf, kf, kf, cu22, cu23, cu24, cu25, (nt hx12), (nt hx14), kf, (fun h _ => nt hx13 h), (nt hx15), (fun _ => hs130), cf1, (nt hx12), (nt hx14)⟩
   ·
    obtain rfl := oj hi
    have hx8 := hSi
    have hx10 := ngF hcl 10 8 hx8
    have hx11 := ngF hcl 11 10 hx10
    have hx12 := ngF hcl 12 11 hx11
    have hx13 := ngF hcl 13 11 hx11
    have hx14 := ngF hcl 14 8 hx8
    have hx15 := ngF hcl 15 8 hx8
    obtain rfl := cr0_0 hx13
    refine hG (any_step ?_); clear hG G; intro A J hJ
    have hle0 := Fz.le.trans hle0 hle91
    refine s1 hFx 22 (.slice ao1 zao1.length cap2) ?_; intro a137 hF138; clear hFx
    refine nl (qnI (hJ _ _ ?_)); clear hJ J
    exact ⟨g51, g64, g73, g79, ud14, ud15, ud16, ud17, ud18, ud19, ud20, ud21, .slice ao1 zao1.length cap2, ud23, ud24, ud25, ud26, ud27, .own (tyInt .i64) 3 ao1 cap2 zao1, hle91, hF138.reg, hMx.perm lpr, cu14, cu15, cu16, cu17, cu18, cu19, cu20, cu21, kf, cu23, (nt hx10), (nt hx11), (nt hx12), (nt hx14), kf, (fun h _ => nt hx13 h), (nt hx15), cf0, (nt hx10), (nt hx12), (nt hx14)⟩
   ·
    obtain rfl := oj hi
    have hx9 := hSi
    have hx10 := ngF hcl 10 9 hx9
    have hx11 := ngF hcl 11 10 hx10
    have hx12 := ngF hcl 12 11 hx11
    have hx13 := ngF hcl 13 11 hx11
    have hx14 := ngF hcl 14 9 hx9
    have hx15 := ngF hcl 15 9 hx9
    obtain rfl := cr0_0 hx13
    refine hG (any_step ?_); clear hG G; intro A J hJ
    have hle0 := Fz.le.trans hle0 hle91
    refine s1 hFx 23 (.int .i64 x2) ?_; intro a140 hF141; clear hFx
    refine nl (qnI (hJ _ _ ?_)); clear hJ J
    exact ⟨g51, g64, g73, g79, ud14, ud15, ud16, ud17, ud18, ud19, ud20, ud21, ud22, .int .i64 x2, ud24, ud25, ud26, ud27, .own (tyInt .i64) 3 ao1 cap2 zao1, hle91, hF141.reg, hMx.perm lpr, cu14, cu15, cu16, cu17, cu18, cu19, cu20, cu21, cu22, kf, (nt hx10), (nt hx11), (nt hx12), (nt hx14), kf, (fun h _ => nt hx13 h), (nt hx15), cf0, (nt hx10), (nt hx12), (nt hx14)⟩
   ·
    obtain rfl := oj hi
    have hx9 := hpre 9 (by kernel_rfl)
    have hx8 := hpre 8 (by kernel_rfl)
    have hx10 := hSi
    have hx11 := ngF hcl 11 10 hx10
    have hx12 := ngF hcl 12 11 hx11
    have hx13 := ngF hcl 13 11 hx11
    have hx14 := ngF hcl 14 10 hx10
    have hx15 := ngF hcl 15 10 hx10
    obtain rfl := cu22 hx8
    obtain rfl := cu23 hx9
    obtain rfl := cr0_0 hx13
    refine hG (any_step ?_); clear hG G; intro A J hJ
    have hle0 := Fz.le.trans hle0 hle91
    refine ixo hFx hMx 0 (T := (tyInt .i64)) (xs := zao1) x2 (by simpa only [List.length_set] using hcd10_0) (k := .i64) (e := 3) (bytes := 8) (nog rfl _) rfl (by kernel_rfl) rfl (by kernel_rfl) (by kernel_rfl) rfl (by kernel_rfl) ?_; intro g143 a145 hg144 hF146; clear hFx
    refine nl (qnI (hJ _ _ ?_)); clear hJ J
    exact ⟨g51, g143, g73, g79, ud14, ud15, ud16, ud17, ud18, ud19, ud20, ud21, .slice ao1 zao1.length cap2, .int .i64 x2, .pointer (some ⟨g143, x2.toNat * 1, none⟩), ud25, ud26, ud27, .own (tyInt .i64) 3 ao1 cap2 zao1, hle91, hF146.reg, hMx.perm lpr, cu14, cu15, cu16, cu17, cu18, cu19, cu20, cu21, kf, kf, kf, (nt hx11), (nt hx12), (nt hx14), kf, (fun h _ => nt hx13 h), (nt hx15), cf0, (fun _ => hg144), (nt hx12), (nt hx14)⟩
   ·
    obtain rfl := oj hi
    have hx10 := hpre 10 (by kernel_rfl)
    have hx9 := hcl 10 9 (by kernel_rfl) hx10
    have hx8 := hcl 10 8 (by kernel_rfl) hx10
    have hx11 := hSi
    have hx12 := ngF hcl 12 11 hx11
    have hx13 := ngF hcl 13 11 hx11
    have hx14 := ngF hcl 14 11 hx11
    have hx15 := ngF hcl 15 11 hx11
    obtain rfl := cu22 hx8
    obtain rfl := cu23 hx9
    obtain rfl := cu24 hx10
    obtain rfl := cr0_0 hx13
    refine hG (any_step ?_); clear hG G; intro A J hJ
    have hle0 := Fz.le.trans hle0 hle91
    have hs148 := cf1 hx10
    obtain ⟨cs149, hT150, hcl151⟩ := own_elx hMx 0 (T := (tyInt .i64)) (xs := zao1) rfl hs148 x2.toNat hqd11_0
    obtain rfl : cs149 = ([.int .i64 qd11_0] : List Value) := hT150
    refine lc1 hFx 25 (.int .i64 qd11_0) (hcl151 0 _ rfl) rfl ?_; intro a152 hF153; clear hFx
    refine nl (qnI (hJ _ _ ?_)); clear hJ J
    exact ⟨g51, g64, g73, g79, ud14, ud15, ud16, ud17, ud18, ud19, ud20, ud21, .slice ao1 zao1.length cap2, .int .i64 x2, .pointer (some ⟨g64, x2.toNat * 1, none⟩), .int .i64 qd11_0, ud26, ud27, .own (tyInt .i64) 3 ao1 cap2 zao1, hle91, hF153.reg, hMx.perm lpr, cu14, cu15, cu16, cu17, cu18, cu19, cu20, cu21, kf, kf, kf, kf, (nt hx12), (nt hx14), kf, (fun h _ => nt hx13 h), (nt hx15), cf0, (fun _ => hs148), (nt hx12), (nt hx14)⟩
   ·
    obtain rfl := oj hi
    have hx11 := hpre 11 (by kernel_rfl)
    have hx7 := hpre 7 (by kernel_rfl)
    have hx6 := hpre 6 (by kernel_rfl)
    have hx5 := hpre 5 (by kernel_rfl)
    have hx4 := hpre 4 (by kernel_rfl)
    have hx1 := hpre 1 (by kernel_rfl)
    have hx0 := hpre 0 (by kernel_rfl)
    have hx10 := hcl 11 10 (by kernel_rfl) hx11
    have hx9 := hcl 10 9 (by kernel_rfl) hx10
    have hx8 := hcl 10 8 (by kernel_rfl) hx10
    have hx12 := hSi
    have hx13 := ngF hcl 13 12 hx12
    have hx14 := ngF hcl 14 12 hx12
    have hx15 := ngF hcl 15 12 hx12
    obtain rfl := cu14 hx0
    obtain rfl := cu15 hx1
    obtain rfl := cu18 hx4
    obtain rfl := cu19 hx5
    obtain rfl := cu20 hx6
    obtain rfl := cu21 hx7
    obtain rfl := cu22 hx8
    obtain rfl := cu23 hx9
    obtain rfl := cu24 hx10
    obtain rfl := cu25 hx11
    obtain rfl := cr0_0 hx13
    refine hG (any_step ?_); clear hG G; intro A J hJ
    have hle0 := Fz.le.trans hle0 hle91
    have hs155 := cf0 hx6
    have hs156 := cf1 hx10
    refine ixo hFx hMx 0 (T := (tyInt .i64)) (xs := zao1) x2 (by simpa only [List.length_set] using hcd12_0) (k := .i64) (e := 3) (bytes := 8) (nog rfl _) rfl (by kernel_rfl) rfl (by kernel_rfl) (by kernel_rfl) rfl (by kernel_rfl) ?_; intro g157 a159 hg158 hF160; clear hFx
    refine nl (qnI (hJ _ _ ?_)); clear hJ J
    exact ⟨g51, g64, g157, g79, .slice ao1 zao1.length cap2, .int .i64 x2, ud16, ud17, .slice ao1 zao1.length cap2, .int .i64 x3, .pointer (some ⟨g51, x3.toNat * 1, none⟩), .int .i64 qd7_0, .slice ao1 zao1.length cap2, .int .i64 x2, .pointer (some ⟨g64, x2.toNat * 1, none⟩), .int .i64 qd11_0, .pointer (some ⟨g157, x2.toNat * 1, none⟩), ud27, .own (tyInt .i64) 3 ao1 cap2 zao1, hle91, hF160.reg, hMx.perm lpr, kf, kf, cu16, cu17, kf, kf, kf, kf, kf, kf, kf, kf, kf, (nt hx14), kf, (fun h _ => nt hx13 h), (nt hx15), (fun _ => hs155), (fun _ => hs156), (fun _ => hg158), (nt hx14)⟩
   ·
    obtain rfl := oj hi
    have hx12 := hpre 12 (by kernel_rfl)
    have hx11 := hpre 11 (by kernel_rfl)
    have hx7 := hpre 7 (by kernel_rfl)
    have hx6 := hpre 6 (by kernel_rfl)
    have hx5 := hpre 5 (by kernel_rfl)
    have hx4 := hpre 4 (by kernel_rfl)
    have hx1 := hpre 1 (by kernel_rfl)
    have hx0 := hpre 0 (by kernel_rfl)
    have hx10 := hcl 11 10 (by kernel_rfl) hx11
    have hx9 := hcl 10 9 (by kernel_rfl) hx10
    have hx8 := hcl 10 8 (by kernel_rfl) hx10
    have hx13 := hSi
    have hx14 := ngF hcl 14 13 hx13
    have hx15 := ngF hcl 15 13 hx13
    obtain rfl := cu14 hx0
    obtain rfl := cu15 hx1
    obtain rfl := cu18 hx4
    obtain rfl := cu19 hx5
    obtain rfl := cu20 hx6
    obtain rfl := cu21 hx7
    obtain rfl := cu22 hx8
    obtain rfl := cu23 hx9
    obtain rfl := cu24 hx10
    obtain rfl := cu25 hx11
    obtain rfl := cu26 hx12
    obtain rfl := cr0_0 hx13
    refine hG (any_step ?_); clear hG G; intro A J hJ
    have hle0 := Fz.le.trans hle0 hle91
    have hs162 := cf0 hx6
    have hs163 := cf1 hx10
    have hs164 := cf2 hx12
    refine sox hFx hMx 0 hs164 (T := (tyInt .i64)) (xs := zao1) x2.toNat qd7_0 (u := .int .i64 qd7_0) (nog rfl _) rfl rfl (by kernel_rfl) rfl (by kernel_rfl) rfl (by kernel_rfl) (by first | omega | (simp only [List.length_set] at *; omega)) rfl ?_; intro wd165 hM166; clear hMx
    refine nl (qnI (hJ _ _ ?_)); clear hJ J
    exact ⟨g51, g64, g73, g79, .slice ao1 zao1.length cap2, .int .i64 x2, ud16, ud17, .slice ao1 zao1.length cap2, .int .i64 x3, .pointer (some ⟨g51, x3.toNat * 1, none⟩), .int .i64 qd7_0, .slice ao1 zao1.length cap2, .int .i64 x2, .pointer (some ⟨g64, x2.toNat * 1, none⟩), .int .i64 qd11_0, .pointer (some ⟨g73, x2.toNat * 1, none⟩), ud27, .own (tyInt .i64) 3 ao1 cap2 (zao1.set x2.toNat qd7_0), hle91, hFx.reg, hM166.perm lpr, kf, kf, cu16, cu17, kf, kf, kf, kf, kf, kf, kf, kf, kf, (nt hx14), nu, kf2, (nt hx15), (fun _ => hs162), (fun _ => hs163), (fun _ => hs164), (nt hx14)⟩
   ·
    obtain rfl := oj hi
    have hx13 := hpre 13 (by kernel_rfl)
    have hx12 := hpre 12 (by kernel_rfl)
    have hx11 := hpre 11 (by kernel_rfl)
    have hx10 := hpre 10 (by kernel_rfl)
    have hx9 := hpre 9 (by kernel_rfl)
    have hx8 := hpre 8 (by kernel_rfl)
    have hx7 := hpre 7 (by kernel_rfl)
    have hx6 := hpre 6 (by kernel_rfl)
    have hx5 := hpre 5 (by kernel_rfl)
    have hx4 := hpre 4 (by kernel_rfl)
    have hx3 := hpre 3 (by kernel_rfl)
    have hx2 := hpre 2 (by kernel_rfl)
    have hx1 := hpre 1 (by kernel_rfl)
    have hx0 := hpre 0 (by kernel_rfl)
    have hx14 := hSi
    have hx15 := ngF hcl 15 14 hx14
    obtain rfl := cu14 hx0
    obtain rfl := cu15 hx1
    obtain rfl := cu16 hx2
    obtain rfl := cu17 hx3
    obtain rfl := cu18 hx4
    obtain rfl := cu19 hx5
    obtain rfl := cu20 hx6
    obtain rfl := cu21 hx7
    obtain rfl := cu22 hx8
    obtain rfl := cu23 hx9
    obtain rfl := cu24 hx10
    obtain rfl := cu25 hx11
    obtain rfl := cu26 hx12
    obtain rfl := cr0_1 hx13 hx15
    refine hG (any_step ?_); clear hG G; intro A J hJ
    have hle0 := Fz.le.trans hle0 hle91
    have hs168 := cf0 hx6
    have hs169 := cf1 hx10
    have hs170 := cf2 hx12
    have hl171 : (zao1.set x2.toNat qd7_0).length = zao1.length := by simp; try omega
    have hF172 : Fr 28 [] [⟨0, [], .slice ao1 (zao1.set x2.toNat qd7_0).length cap2⟩, ⟨2, [], .int .i64 x2⟩, ⟨3, [], .int .i64 x3⟩, ⟨14, [], .slice ao1 (zao1.set x2.toNat qd7_0).length cap2⟩, ⟨15, [], .int .i64 x2⟩, ⟨16, [], .slice ao1 (zao1.set x2.toNat qd7_0).length cap2⟩, ⟨17, [], .int .i64 x3⟩, ⟨18, [], .slice ao1 (zao1.set x2.toNat qd7_0).length cap2⟩, ⟨19, [], .int .i64 x3⟩, ⟨20, [], .pointer (some ⟨g51, x3.toNat * 1, none⟩)⟩, ⟨21, [], .int .i64 qd7_0⟩, ⟨22, [], .slice ao1 (zao1.set x2.toNat qd7_0).length cap2⟩, ⟨23, [], .int .i64 x2⟩, ⟨24, [], .pointer (some ⟨g64, x2.toNat * 1, none⟩)⟩, ⟨25, [], .int .i64 qd11_0⟩, ⟨26, [], .pointer (some ⟨g73, x2.toNat * 1, none⟩)⟩, ⟨27, [], ud27⟩] a := by rw [hl171]; exact hFx.reg
    clear hFx
    refine ixo hF172 hMx 0 (T := (tyInt .i64)) (xs := zao1.set x2.toNat qd7_0) x3 (by simpa only [List.length_set] using hcd14_0) (k := .i64) (e := 3) (bytes := 8) (nog rfl _) rfl (by kernel_rfl) rfl (by kernel_rfl) (by kernel_rfl) rfl (by kernel_rfl) ?_; intro g173 a175 hg174 hF176; clear hF172
    refine nl (qnI (hJ _ _ ?_)); clear hJ J
    rw [hl171] at hF176
    exact ⟨g51, g64, g73, g173, .slice ao1 zao1.length cap2, .int .i64 x2, .slice ao1 zao1.length cap2, .int .i64 x3, .slice ao1 zao1.length cap2, .int .i64 x3, .pointer (some ⟨g51, x3.toNat * 1, none⟩), .int .i64 qd7_0, .slice ao1 zao1.length cap2, .int .i64 x2, .pointer (some ⟨g64, x2.toNat * 1, none⟩), .int .i64 qd11_0, .pointer (some ⟨g73, x2.toNat * 1, none⟩), .pointer (some ⟨g173, x3.toNat * 1, none⟩), .own (tyInt .i64) 3 ao1 cap2 (zao1.set x2.toNat qd7_0), hle91, hF176.reg, hMx.perm lpr, (fun _ => by first | rfl | rw [hl171]), (fun _ => by first | rfl | rw [hl171]), (fun _ => by first | rfl | rw [hl171]), (fun _ => by first | rfl | rw [hl171]), (fun _ => by first | rfl | rw [hl171]), (fun _ => by first | rfl | rw [hl171]), (fun _ => by first | rfl | rw [hl171]), (fun _ => by first | rfl | rw [hl171]), (fun _ => by first | rfl | rw [hl171]), (fun _ => by first | rfl | rw [hl171]), (fun _ => by first | rfl | rw [hl171]), (fun _ => by first | rfl | rw [hl171]), (fun _ => by first | rfl | rw [hl171]), (fun _ => by first | rfl | rw [hl171]), (tn hx13), kf2, (nt hx15), (fun _ => hs168), (fun _ => hs169), (fun _ => hs170), (fun _ => hg174)⟩
   ·
    obtain rfl := oj hi
    have hx14 := hpre 14 (by kernel_rfl)
    have hx13 := hpre 13 (by kernel_rfl)
    have hx12 := hpre 12 (by kernel_rfl)
    have hx11 := hpre 11 (by kernel_rfl)
    have hx10 := hpre 10 (by kernel_rfl)
    have hx9 := hpre 9 (by kernel_rfl)
    have hx8 := hpre 8 (by kernel_rfl)
    have hx7 := hpre 7 (by kernel_rfl)
    have hx6 := hpre 6 (by kernel_rfl)
    have hx5 := hpre 5 (by kernel_rfl)
    have hx4 := hpre 4 (by kernel_rfl)
    have hx3 := hpre 3 (by kernel_rfl)
    have hx2 := hpre 2 (by kernel_rfl)
    have hx1 := hpre 1 (by kernel_rfl)
    have hx0 := hpre 0 (by kernel_rfl)
    have hx15 := hSi
    obtain rfl := cu14 hx0
    obtain rfl := cu15 hx1
    obtain rfl := cu16 hx2
    obtain rfl := cu17 hx3
    obtain rfl := cu18 hx4
    obtain rfl := cu19 hx5
    obtain rfl := cu20 hx6
    obtain rfl := cu21 hx7
    obtain rfl := cu22 hx8
    obtain rfl := cu23 hx9
    obtain rfl := cu24 hx10
    obtain rfl := cu25 hx11
    obtain rfl := cu26 hx12
    obtain rfl := cu27 hx14
    obtain rfl := cr0_1 hx13 hx15
    refine hG (any_step ?_); clear hG G; intro A J hJ
    have hle0 := Fz.le.trans hle0 hle91
    have hs178 := cf0 hx6
    have hs179 := cf1 hx10
    have hs180 := cf2 hx12
    have hs181 := cf3 hx14
    have hl182 : (zao1.set x2.toNat qd7_0).length = zao1.length := by simp; try omega
    have hF183 : Fr 28 [] [⟨0, [], .slice ao1 (zao1.set x2.toNat qd7_0).length cap2⟩, ⟨2, [], .int .i64 x2⟩, ⟨3, [], .int .i64 x3⟩, ⟨14, [], .slice ao1 (zao1.set x2.toNat qd7_0).length cap2⟩, ⟨15, [], .int .i64 x2⟩, ⟨16, [], .slice ao1 (zao1.set x2.toNat qd7_0).length cap2⟩, ⟨17, [], .int .i64 x3⟩, ⟨18, [], .slice ao1 (zao1.set x2.toNat qd7_0).length cap2⟩, ⟨19, [], .int .i64 x3⟩, ⟨20, [], .pointer (some ⟨g51, x3.toNat * 1, none⟩)⟩, ⟨21, [], .int .i64 qd7_0⟩, ⟨22, [], .slice ao1 (zao1.set x2.toNat qd7_0).length cap2⟩, ⟨23, [], .int .i64 x2⟩, ⟨24, [], .pointer (some ⟨g64, x2.toNat * 1, none⟩)⟩, ⟨25, [], .int .i64 qd11_0⟩, ⟨26, [], .pointer (some ⟨g73, x2.toNat * 1, none⟩)⟩, ⟨27, [], .pointer (some ⟨g79, x3.toNat * 1, none⟩)⟩] a := by rw [hl182]; exact hFx.reg
    clear hFx
    refine sox hF183 hMx 0 hs181 (T := (tyInt .i64)) (xs := zao1.set x2.toNat qd7_0) x3.toNat qd11_0 (u := .int .i64 qd11_0) (nog rfl _) rfl rfl (by kernel_rfl) rfl (by kernel_rfl) rfl (by kernel_rfl) (by first | omega | (simp only [List.length_set] at *; omega)) rfl ?_; intro wd184 hM185; clear hMx
    refine nl (qnI (hJ _ _ ?_)); clear hJ J
    rw [hl182] at hF183
    exact ⟨g51, g64, g73, g79, .slice ao1 zao1.length cap2, .int .i64 x2, .slice ao1 zao1.length cap2, .int .i64 x3, .slice ao1 zao1.length cap2, .int .i64 x3, .pointer (some ⟨g51, x3.toNat * 1, none⟩), .int .i64 qd7_0, .slice ao1 zao1.length cap2, .int .i64 x2, .pointer (some ⟨g64, x2.toNat * 1, none⟩), .int .i64 qd11_0, .pointer (some ⟨g73, x2.toNat * 1, none⟩), .pointer (some ⟨g79, x3.toNat * 1, none⟩), .own (tyInt .i64) 3 ao1 cap2 ((zao1.set x2.toNat qd7_0).set x3.toNat qd11_0), hle91, hF183.reg, hM185.perm lpr, (fun _ => by first | rfl | rw [hl182]), (fun _ => by first | rfl | rw [hl182]), (fun _ => by first | rfl | rw [hl182]), (fun _ => by first | rfl | rw [hl182]), (fun _ => by first | rfl | rw [hl182]), (fun _ => by first | rfl | rw [hl182]), (fun _ => by first | rfl | rw [hl182]), (fun _ => by first | rfl | rw [hl182]), (fun _ => by first | rfl | rw [hl182]), (fun _ => by first | rfl | rw [hl182]), (fun _ => by first | rfl | rw [hl182]), (fun _ => by first | rfl | rw [hl182]), (fun _ => by first | rfl | rw [hl182]), (fun _ => by first | rfl | rw [hl182]), (tn hx13), (fun _ => nu), kf, (fun _ => hs178), (fun _ => hs179), (fun _ => hs180), (fun _ => hs181)⟩
  case hE =>
   intro S hS a187 wd188 hI; refine Go.Sy.hid ?_; intro G hG; obtain ⟨g51, g64, g73, g79, ud14, ud15, ud16, ud17, ud18, ud19, ud20, ud21, ud22, ud23, ud24, ud25, ud26, ud27, rh0, hle91, hFx, hMx, cu14, cu15, cu16, cu17, cu18, cu19, cu20, cu21, cu22, cu23, cu24, cu25, cu26, cu27, cr0_0, cr0_1, cr0_2, cf0, cf1, cf2, hI⟩ := hI; have cf3 := hI; clear hI; refine hG ?_; clear hG G
   obtain rfl := cu14 (hS 0 (by decide))
   obtain rfl := cu15 (hS 1 (by decide))
   obtain rfl := cu16 (hS 2 (by decide))
   obtain rfl := cu17 (hS 3 (by decide))
   obtain rfl := cu18 (hS 4 (by decide))
   obtain rfl := cu19 (hS 5 (by decide))
   obtain rfl := cu20 (hS 6 (by decide))
   obtain rfl := cu21 (hS 7 (by decide))
   obtain rfl := cu22 (hS 8 (by decide))
   obtain rfl := cu23 (hS 9 (by decide))
   obtain rfl := cu24 (hS 10 (by decide))
   obtain rfl := cu25 (hS 11 (by decide))
   obtain rfl := cu26 (hS 12 (by decide))
   obtain rfl := cu27 (hS 14 (by decide))
   obtain rfl := cr0_2 (hS 15 (by decide))
   have hle0 := Fz.le.trans hle0 hle91
   have hs189 := cf0 (hS 6 (by decide))
   have hs190 := cf1 (hS 10 (by decide))
   have hs191 := cf2 (hS 12 (by decide))
   have hs192 := cf3 (hS 14 (by decide))
   have hl193 : ((zao1.set x2.toNat qd7_0).set x3.toNat qd11_0).length = zao1.length := by simp; try omega
   have hF194 : Fr 28 [] [⟨0, [], .slice ao1 ((zao1.set x2.toNat qd7_0).set x3.toNat qd11_0).length cap2⟩, ⟨2, [], .int .i64 x2⟩, ⟨3, [], .int .i64 x3⟩, ⟨14, [], .slice ao1 ((zao1.set x2.toNat qd7_0).set x3.toNat qd11_0).length cap2⟩, ⟨15, [], .int .i64 x2⟩, ⟨16, [], .slice ao1 ((zao1.set x2.toNat qd7_0).set x3.toNat qd11_0).length cap2⟩, ⟨17, [], .int .i64 x3⟩, ⟨18, [], .slice ao1 ((zao1.set x2.toNat qd7_0).set x3.toNat qd11_0).length cap2⟩, ⟨19, [], .int .i64 x3⟩, ⟨20, [], .pointer (some ⟨g51, x3.toNat * 1, none⟩)⟩, ⟨21, [], .int .i64 qd7_0⟩, ⟨22, [], .slice ao1 ((zao1.set x2.toNat qd7_0).set x3.toNat qd11_0).length cap2⟩, ⟨23, [], .int .i64 x2⟩, ⟨24, [], .pointer (some ⟨g64, x2.toNat * 1, none⟩)⟩, ⟨25, [], .int .i64 qd11_0⟩, ⟨26, [], .pointer (some ⟨g73, x2.toNat * 1, none⟩)⟩, ⟨27, [], .pointer (some ⟨g79, x3.toNat * 1, none⟩)⟩] a187 := by rw [hl193]; exact hFx.reg
   clear hFx
   refine ibn ?_
   refine thn ?_
   have hF195 : Fr 28 [] [⟨0, [], .slice ao1 ((zao1.set x2.toNat qd7_0).set x3.toNat qd11_0).length cap2⟩, ⟨2, [], .int .i64 x2⟩, ⟨3, [], .int .i64 x3⟩] a187 := hF194.reg; clear hF194
   refine rgH ?_; intro hQ196Q hQ196
   refine s1 hF195 10 (.int .i64 x2) ?_; intro a197 hF198; clear hF195
   refine s1 hF198 11 (.int .i64 (w64 (x2 + 1))) ?_; intro a199 hF200; clear hF198
   refine s1 hF200 12 (.int .i64 x3) ?_; intro a201 hF202; clear hF200
   refine s1 hF202 13 (.int .i64 (w64 (x3 - 1))) ?_; intro a203 hF204; clear hF202
   refine s1 hF204 2 (.int .i64 (w64 (x2 + 1))) ?_; intro a205 hF206; clear hF204
   refine s1 hF206 3 (.int .i64 (w64 (x3 - 1))) ?_; intro a207 hF208; clear hF206
   refine nlH (hQ196 _ _ ?_); clear hQ196 hQ196Q
   refine rd ?_
   exact ⟨⟨w64 (x2 + 1), w64 (x3 - 1), (zao1.set x2.toNat qd7_0).set x3.toNat qd11_0⟩, hp90.1, hp90.2, (hF208.reg).anyβ _ (by kernel_rfl), hMx.keep (List.Sublist.cons_cons _ (List.Sublist.refl _))⟩
 ·
  have hp209 := hp28.2 hb36; clear hp28
  refine wp_exit ?_
  refine thx ?_
  refine thx ?_
  refine ibx ?_
  have hc210 := hp209.1; have hp211 := hp209.2; clear hp209
  refine rN (fn := Tryd.f90) (v := .tuple #[]) hF35 (re0 hF35 (fn := Tryd.f90) rfl) ?_
  exact ⟨zao1, Z, rfl, hp211, hle0, hc210, hM27.keep (List.Sublist.cons_cons _ (List.Sublist.refl _))⟩

end Go.Proofs.YtdndfbamhnchfaaDoor
