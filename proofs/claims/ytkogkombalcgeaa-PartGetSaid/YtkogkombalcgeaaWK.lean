/- The walks, made by program: each call does what its pure predicate says. -/
import Derived.Test.YtkogkombalcgeaaRows
import Derived.Test.YtkogkombalcgeaaPK
set_option linter.unusedVariables false
set_option linter.unusedSimpArgs false
namespace Go.Proofs.Ytkogkombalcgeaa
open Go.Sy Go.RowKit
theorem mixed : Try.prog.follows .mixedOrders = true := by kernel_rfl
theorem rdSender : Rd Try.prog 53 tySender okSender := by
  refine ⟨fun enc w fuel cs x h hw => ?_⟩
  have hu : Try.prog.underlying 53 = some (.struct _) := Try.underlying53
  have hl := rd_len hu h (m := 5) (by kernel_rfl)
  obtain ⟨q0, h0, k0⟩ := rd_field hu h hw 0 rfl (rd_slice (P := Try.prog) (t := 36) (e := 5) (bytes := 1) (by kernel_rfl) (rd_int (P := Try.prog) (t := 5) (k := .u8) (by kernel_rfl))) (m := 1) (by kernel_rfl) (off := 0) rfl
  obtain ⟨ao0, cap0, h0, s0⟩ := h0
  have e0 : (cs.drop 0).take 1 = [.slice ao0 q0.length cap0] := h0
  obtain ⟨q1, h1, k1⟩ := rd_field hu h hw 1 rfl (rd_int (P := Try.prog) (t := 3) (k := .i64) (by kernel_rfl)) (m := 1) (by kernel_rfl) (off := 1) rfl
  have e1 : (cs.drop 1).take 1 = [.int .i64 q1] := h1
  obtain ⟨q2, h2, k2⟩ := rd_field hu h hw 2 rfl (rd_int (P := Try.prog) (t := 3) (k := .i64) (by kernel_rfl)) (m := 1) (by kernel_rfl) (off := 2) rfl
  have e2 : (cs.drop 2).take 1 = [.int .i64 q2] := h2
  obtain ⟨q3, h3, k3⟩ := rd_field hu h hw 3 rfl (rd_int (P := Try.prog) (t := 3) (k := .i64) (by kernel_rfl)) (m := 1) (by kernel_rfl) (off := 3) rfl
  have e3 : (cs.drop 3).take 1 = [.int .i64 q3] := h3
  obtain ⟨q4, h4, k4⟩ := rd_field hu h hw 4 rfl (rd_bool (P := Try.prog) (t := 4) (by kernel_rfl)) (m := 1) (by kernel_rfl) (off := 4) rfl
  have e4 : (cs.drop 4).take 1 = [.bool q4] := h4
  have z : cs.drop 5 = [] := List.drop_eq_nil_of_le (by omega)
  have g4 : cs.drop 4 = [.bool q4] := by rw [show cs.drop 4 = (cs.drop 4).take 1 ++ cs.drop 5 from cut_at cs 4 1, e4, z]; rfl
  have g3 : cs.drop 3 = [.int .i64 q3, .bool q4] := by rw [show cs.drop 3 = (cs.drop 3).take 1 ++ cs.drop 4 from cut_at cs 3 1, e3, g4]; rfl
  have g2 : cs.drop 2 = [.int .i64 q2, .int .i64 q3, .bool q4] := by rw [show cs.drop 2 = (cs.drop 2).take 1 ++ cs.drop 3 from cut_at cs 2 1, e2, g3]; rfl
  have g1 : cs.drop 1 = [.int .i64 q1, .int .i64 q2, .int .i64 q3, .bool q4] := by rw [show cs.drop 1 = (cs.drop 1).take 1 ++ cs.drop 2 from cut_at cs 1 1, e1, g2]; rfl
  have g0 : cs.drop 0 = [.slice ao0 q0.length cap0, .int .i64 q1, .int .i64 q2, .int .i64 q3, .bool q4] := by rw [show cs.drop 0 = (cs.drop 0).take 1 ++ cs.drop 1 from cut_at cs 0 1, e0, g1]; rfl
  refine ⟨⟨q0, q1, q2, q3, q4⟩, ?_, k0, k1, k2, k3, k4⟩
  rw [List.drop_zero] at g0
  exact ⟨ao0, cap0, g0, s0⟩

theorem rdGetter : Rd Try.prog 71 tyGetter okGetter := by
  refine ⟨fun enc w fuel cs x h hw => ?_⟩
  have hu : Try.prog.underlying 71 = some (.struct _) := Try.underlying71
  have hl := rd_len hu h (m := 5) (by kernel_rfl)
  obtain ⟨q0, h0, k0⟩ := rd_field hu h hw 0 rfl (rd_int (P := Try.prog) (t := 3) (k := .i64) (by kernel_rfl)) (m := 1) (by kernel_rfl) (off := 0) rfl
  have e0 : (cs.drop 0).take 1 = [.int .i64 q0] := h0
  obtain ⟨q1, h1, k1⟩ := rd_field hu h hw 1 rfl (rd_slice (P := Try.prog) (t := 36) (e := 5) (bytes := 1) (by kernel_rfl) (rd_int (P := Try.prog) (t := 5) (k := .u8) (by kernel_rfl))) (m := 1) (by kernel_rfl) (off := 1) rfl
  obtain ⟨ao0, cap0, h1, s0⟩ := h1
  have e1 : (cs.drop 1).take 1 = [.slice ao0 q1.length cap0] := h1
  obtain ⟨q2, h2, k2⟩ := rd_field hu h hw 2 rfl (rd_int (P := Try.prog) (t := 3) (k := .i64) (by kernel_rfl)) (m := 1) (by kernel_rfl) (off := 2) rfl
  have e2 : (cs.drop 2).take 1 = [.int .i64 q2] := h2
  obtain ⟨q3, h3, k3⟩ := rd_field hu h hw 3 rfl (rd_int (P := Try.prog) (t := 3) (k := .i64) (by kernel_rfl)) (m := 1) (by kernel_rfl) (off := 3) rfl
  have e3 : (cs.drop 3).take 1 = [.int .i64 q3] := h3
  obtain ⟨q4, h4, k4⟩ := rd_field hu h hw 4 rfl (rd_int (P := Try.prog) (t := 3) (k := .i64) (by kernel_rfl)) (m := 1) (by kernel_rfl) (off := 4) rfl
  have e4 : (cs.drop 4).take 1 = [.int .i64 q4] := h4
  have z : cs.drop 5 = [] := List.drop_eq_nil_of_le (by omega)
  have g4 : cs.drop 4 = [.int .i64 q4] := by rw [show cs.drop 4 = (cs.drop 4).take 1 ++ cs.drop 5 from cut_at cs 4 1, e4, z]; rfl
  have g3 : cs.drop 3 = [.int .i64 q3, .int .i64 q4] := by rw [show cs.drop 3 = (cs.drop 3).take 1 ++ cs.drop 4 from cut_at cs 3 1, e3, g4]; rfl
  have g2 : cs.drop 2 = [.int .i64 q2, .int .i64 q3, .int .i64 q4] := by rw [show cs.drop 2 = (cs.drop 2).take 1 ++ cs.drop 3 from cut_at cs 2 1, e2, g3]; rfl
  have g1 : cs.drop 1 = [.slice ao0 q1.length cap0, .int .i64 q2, .int .i64 q3, .int .i64 q4] := by rw [show cs.drop 1 = (cs.drop 1).take 1 ++ cs.drop 2 from cut_at cs 1 1, e1, g2]; rfl
  have g0 : cs.drop 0 = [.int .i64 q0, .slice ao0 q1.length cap0, .int .i64 q2, .int .i64 q3, .int .i64 q4] := by rw [show cs.drop 0 = (cs.drop 0).take 1 ++ cs.drop 1 from cut_at cs 0 1, e0, g1]; rfl
  refine ⟨⟨q0, q1, q2, q3, q4⟩, ?_, k0, k1, k2, k3, k4⟩
  rw [List.drop_zero] at g0
  exact ⟨ao0, cap0, g0, s0⟩

set_option maxRecDepth 100000 in
theorem beq_walk (u0 : List Int) (u1 : List Int) (ao1 : Option Addr) (cap2 : Nat) (ao4 : Option Addr) (cap5 : Nat) (Z : Fz) (w : World) (hs3 : SlR (tyInt .u8) Z ao1 cap2 u0) (hs6 : SlR (tyInt .u8) Z ao4 cap5 u1) (hZ : Z.on w) {K : Bool → Prop} (hp : beq_vc u0 u1 K) : Calls Try.prog 37 #[.slice ao1 u0.length cap2, .slice ao4 u1.length cap5] w fun e w' => ∃ r : Bool, e = .returned (.bool r) ∧ K r ∧ Below w.heap.size w w' := by
 refine enter0 Try.func37 rfl rfl (by kernel_rfl) ?_; intro a0 hF0; have hM0 := Mem.start w Z hZ; have hle0 := Fz.le.refl Z
 have hp7 := hp (hs3.small); clear hp
 have hp8 := hp7 (hs6.small); clear hp7
 refine sqH ?_; intro hQ9Q hQ9
 refine s1 hF0 4 (.bool false) ?_; intro a10 hF11; clear hF0
 refine nlH (hQ9 _ _ ?_); clear hQ9 hQ9Q
 refine wp_seq ?_
 refine sqH ?_; intro hQ12Q hQ12
 refine s1 hF11 6 (.slice ao1 u0.length cap2) ?_; intro a13 hF14; clear hF11
 refine s1 hF14 7 (.int .i64 (u0.length : Int)) ?_; intro a15 hF16; clear hF14
 refine s1 hF16 8 (.slice ao4 u1.length cap5) ?_; intro a17 hF18; clear hF16
 refine s1 hF18 9 (.int .i64 (u1.length : Int)) ?_; intro a19 hF20; clear hF18
 refine s1 hF20 10 (.bool ((u0.length : Int) != (u1.length : Int))) ?_; intro a21 hF22; clear hF20
 refine nlH (hQ12 _ _ ?_); clear hQ12 hQ12Q
 refine cd hF22 (t := (u0.length : Int) != (u1.length : Int)) (by kernel_rfl) (fun hb23 => ?_) (fun hb23 => ?_)
 · -- yes
  have hp24 := hp8.1 hb23; clear hp8
  refine sqH ?_; intro hQ25Q hQ25
  refine s1 hF22 4 (.bool false) ?_; intro a26 hF27; clear hF22
  refine nlH (hQ25 _ _ ?_); clear hQ25 hQ25Q
  refine wp_ret ?_
  refine thr ?_
  refine rt (fn := Try.f37) (v := .bool false) hF27 (re1 hF27 (fn := Try.f37) rfl (by kernel_rfl)) ?_
  exact ⟨false, rfl, hp24, hM0.below⟩
 · -- no
  have hp28 := hp8.2 hb23; clear hp8
  refine wp_skip ?_
  refine thn ?_
  refine wp_seq ?_
  refine sqH ?_; intro hQ29Q hQ29
  refine s1 hF22 11 (.slice ao1 u0.length cap2) ?_; intro a30 hF31; clear hF22
  refine s1 hF31 12 (.int .i64 (u0.length : Int)) ?_; intro a32 hF33; clear hF31
  refine s1 hF33 13 (.int .i64 0) ?_; intro a34 hF35; clear hF33
  refine nlH (hQ29 _ _ ?_); clear hQ29 hQ29Q
  refine wp_block ?_
  have hF36 : Fr 26 [] [⟨0, [], .slice ao1 u0.length cap2⟩, ⟨1, [], .slice ao4 u1.length cap5⟩, ⟨12, [], .int .i64 (u0.length : Int)⟩, ⟨13, [], .int .i64 0⟩] a34 := hF35.region (by kernel_rfl) (by kernel_rfl); clear hF35
  have hF38 : Fr 26 [] [⟨0, [], .slice ao1 u0.length cap2⟩, ⟨1, [], .slice ao4 u1.length cap5⟩, ⟨12, [], .int .i64 (u0.length : Int)⟩, ⟨13, [], .int .i64 0⟩] a34 := hF36.region (by kernel_rfl) (by kernel_rfl); clear hF36
  obtain ⟨inv37, mu37, hI41, hr40⟩ := hp28
  refine lp (ι := Int) (fun (s : Int) => [⟨0, [], .slice ao1 u0.length cap2⟩, ⟨1, [], .slice ao4 u1.length cap5⟩, ⟨12, [], .int .i64 (u0.length : Int)⟩, ⟨13, [], .int .i64 s⟩]) (fun (s : Int) => []) (fun (s : Int) => Z) (fun (s : Int) => inv37 s) (fun (s : Int) => mu37 s) 0 hI41 (by exact hF38.region (by kernel_rfl) (by kernel_rfl)) (by exact hM0) ?_
  rintro x13 hI39 a43 wd44 hF45 hM46
  have hF47 : Fr 26 [] [⟨0, [], .slice ao1 u0.length cap2⟩, ⟨1, [], .slice ao4 u1.length cap5⟩, ⟨12, [], .int .i64 (u0.length : Int)⟩, ⟨13, [], .int .i64 x13⟩] a43 := hF45; clear hF45 hF38
  have hM48 : Mem w.heap.size [] w Z [] Z wd44 := hM46; clear hM46 hM0
  have hp49 := hr40 x13 hI39
  refine sqH ?_; intro hQ50Q hQ50
  refine s1 hF47 14 (.bool (decide (x13 < (u0.length : Int)))) ?_; intro a51 hF52; clear hF47
  refine nlH (hQ50 _ _ ?_); clear hQ50 hQ50Q
  refine wp_seq ?_
  refine cd hF52 (t := decide (x13 < (u0.length : Int))) (by kernel_rfl) (fun hb53 => ?_) (fun hb53 => ?_)
  · -- yes
   have hp54 := hp49.1 hb53; clear hp49
   refine wp_skip ?_
   refine thn ?_
   refine wp_seq ?_
   refine wp_block ?_
   refine sqH ?_; intro hQ55Q hQ55
   refine s1 hF52 15 (.int .i64 x13) ?_; intro a56 hF57; clear hF52
   refine s1 hF57 5 (.int .i64 x13) ?_; intro a58 hF59; clear hF57
   refine nlH (hQ55 _ _ ?_); clear hQ55 hQ55Q
   have hF60 : Fr 26 [] [⟨0, [], .slice ao1 u0.length cap2⟩, ⟨1, [], .slice ao4 u1.length cap5⟩, ⟨5, [], .int .i64 x13⟩, ⟨12, [], .int .i64 (u0.length : Int)⟩, ⟨13, [], .int .i64 x13⟩] a58 := hF59.region (by kernel_rfl) (by kernel_rfl); clear hF59
   refine sqQH mixed (by kernel_rfl) hM48 ?_; intro hQ61Q hQ61
   refine q1 hF60 16 (.slice ao1 u0.length cap2) ?_; intro a63 hF64; clear hF60
   refine q1 hF64 17 (.int .i64 x13) ?_; intro a66 hF67; clear hF64
   have hc69 := hp54.1; have hp70 := hp54.2; clear hp54
   refine qix hF67 (T := (tyInt .u8)) (xs := u0) hs3 x13 hc69 (k := .i64) (e := 5) (bytes := 1) (nog rfl _) rfl (by kernel_rfl) rfl (by kernel_rfl) (by kernel_rfl) (by kernel_rfl) ?_; intro b71 off72 cs73 q74 a78 hq75 hP76 hT77 hF79; clear hF67
   have hp80 := hp70 q74 hq75; clear hp70
   obtain rfl : cs73 = ([.int .u8 q74] : List Value) := hT77
   refine qst hF79 (.int .u8 q74) (nog rfl _) rfl (by kernel_rfl) (fun v81 hC => lz hF79 hC.fz hP76 0 (g := []) rfl (by kernel_rfl) (by kernel_rfl) (by kernel_rfl) rfl) ?_; intro a82 hF83; clear hF79
   refine q1 hF83 20 (.slice ao4 u1.length cap5) ?_; intro a85 hF86; clear hF83
   refine q1 hF86 21 (.int .i64 x13) ?_; intro a88 hF89; clear hF86
   have hc91 := hp80.1; have hp92 := hp80.2; clear hp80
   refine qix hF89 (T := (tyInt .u8)) (xs := u1) hs6 x13 hc91 (k := .i64) (e := 5) (bytes := 1) (nog rfl _) rfl (by kernel_rfl) rfl (by kernel_rfl) (by kernel_rfl) (by kernel_rfl) ?_; intro b93 off94 cs95 q96 a100 hq97 hP98 hT99 hF101; clear hF89
   have hp102 := hp92 q96 hq97; clear hp92
   obtain rfl : cs95 = ([.int .u8 q96] : List Value) := hT99
   refine qst hF101 (.int .u8 q96) (nog rfl _) rfl (by kernel_rfl) (fun v103 hC => lz hF101 hC.fz hP98 0 (g := []) rfl (by kernel_rfl) (by kernel_rfl) (by kernel_rfl) rfl) ?_; intro a104 hF105; clear hF101
   refine q1 hF105 24 (.bool (q74 != q96)) ?_; intro a107 hF108; clear hF105
   refine qnl (hQ61 _ ?_); clear hQ61 hQ61Q; intro wd109 hM110; clear hM48
   refine cd hF108 (t := q74 != q96) (by kernel_rfl) (fun hb111 => ?_) (fun hb111 => ?_)
   · -- yes
    have hp112 := hp102.1 hb111; clear hp102
    refine sqH ?_; intro hQ113Q hQ113
    refine s1 hF108 4 (.bool false) ?_; intro a114 hF115; clear hF108
    refine nlH (hQ113 _ _ ?_); clear hQ113 hQ113Q
    refine wp_ret ?_
    refine ibr ?_
    refine thr ?_
    refine thr ?_
    refine ibr ?_
    refine thr ?_
    refine rt (fn := Try.f37) (v := .bool false) hF115 (re1 hF115 (fn := Try.f37) rfl (by kernel_rfl)) ?_
    exact ⟨false, rfl, hp112, hM110.below⟩
   · -- no
    have hp116 := hp102.2 hb111; clear hp102
    refine wp_skip ?_
    refine ibn ?_
    refine thn ?_
    refine rgH ?_; intro hQ117Q hQ117
    refine s1 hF108 25 (.int .i64 (w64 (x13 + 1))) ?_; intro a118 hF119; clear hF108
    refine s1 hF119 13 (.int .i64 (w64 (x13 + 1))) ?_; intro a120 hF121; clear hF119
    refine nlH (hQ117 _ _ ?_); clear hQ117 hQ117Q
    refine rd ?_
    exact ⟨w64 (x13 + 1), hp116.1, hp116.2, (hF121.region (by kernel_rfl) (by kernel_rfl)).anyβ _ (by kernel_rfl), hM110.keep (List.Sublist.slnil)⟩
  · -- no
   have hp122 := hp49.2 hb53; clear hp49
   refine wp_exit ?_
   refine thx ?_
   refine thx ?_
   refine ibx ?_
   refine thn ?_
   refine sqH ?_; intro hQ123Q hQ123
   refine s1 hF52 4 (.bool true) ?_; intro a124 hF125; clear hF52
   refine nlH (hQ123 _ _ ?_); clear hQ123 hQ123Q
   refine wp_ret ?_
   refine rt (fn := Try.f37) (v := .bool true) hF125 (re1 hF125 (fn := Try.f37) rfl (by kernel_rfl)) ?_
   exact ⟨true, rfl, hp122, hM48.below⟩

set_option maxRecDepth 100000 in
theorem bclone_walk (u0 : List Int) (ao1 : Option Addr) (cap2 : Nat) (Z : Fz) (w : World) (hs3 : SlR (tyInt .u8) Z ao1 cap2 u0) (hZ : Z.on w) {K : (List Int) → Prop} (hp : bclone_vc u0 K) : Calls Try.prog 57 #[.slice ao1 u0.length cap2] w fun e w' => ∃ (r : (List Int)) (ao1001 : Option Addr) (cap1002 : Nat) (Z' : Fz), e = .returned (.slice ao1001 r.length cap1002) ∧ K r ∧ Mem w.heap.size [] w Z [.own (tyInt .u8) 5 ao1001 cap1002 r] Z' w' := by
 refine enter0 Try.func57 rfl rfl (by kernel_rfl) ?_; intro a0 hF0; have hM0 := Mem.start w Z hZ; have hle0 := Fz.le.refl Z
 have hp4 := hp (hs3.small); clear hp
 refine sqH ?_; intro hQ5Q hQ5
 refine s1 hF0 2 (.slice none 0 0) ?_; intro a6 hF7; clear hF0
 refine nlH (hQ5 _ _ ?_); clear hQ5 hQ5Q
 refine wp_seq ?_
 refine sqH ?_; intro hQ8Q hQ8
 refine s1 hF7 3 (.slice ao1 u0.length cap2) ?_; intro a9 hF10; clear hF7
 obtain ⟨nb11, hnb12⟩ : ∃ b, ao1.isNone = b := ⟨_, rfl⟩; have hp13 := hp4 nb11 (by rw [← hnb12]; exact hs3.isNone); clear hp4
 refine st hF10 (.bool nb11) (nog rfl _) rfl (by kernel_rfl) (re_ (r := .ok (.value (.bool ao1.isNone)) w) (by cases ao1 <;> exact p0 hF10 (by kernel_rfl)) (by rw [hnb12])) ?_; intro a14 hF15; clear hF10
 refine nlH (hQ8 _ _ ?_); clear hQ8 hQ8Q
 refine cd hF15 (t := nb11) (by kernel_rfl) (fun hb16 => ?_) (fun hb16 => ?_)
 · -- yes
  have hp17 := hp13.1 hb16; clear hp13
  refine sqH ?_; intro hQ18Q hQ18
  refine s1 hF15 2 (.slice none 0 0) ?_; intro a19 hF20; clear hF15
  refine nlH (hQ18 _ _ ?_); clear hQ18 hQ18Q
  refine wp_ret ?_
  refine thr ?_
  have hM21 : Mem w.heap.size [] w Z [.own (tyInt .u8) 5 none 0 ([] : List Int)] Z w := hM0.addNil (tyInt .u8) 5 (by decide); clear hM0
  refine rt (fn := Try.f57) (v := .slice none ([] : List Int).length 0) hF20 (re1 hF20 (fn := Try.f57) rfl (by kernel_rfl)) ?_
  exact ⟨([] : List Int), none, 0, Z, rfl, hp17, hM21.keep (List.Sublist.cons_cons _ (List.Sublist.slnil))⟩
 · -- no
  have hp22 := hp13.2 hb16; clear hp13
  refine wp_skip ?_
  refine thn ?_
  refine sqH ?_; intro hQ23Q hQ23
  refine sn hF15 hM0 (fun b => .slice (some ⟨b, 0, none⟩) 0 0) [] 5 (nog rfl _) rfl (by kernel_rfl) (by kernel_rfl) ?_; intro b24 a25 wd27 hF26 hM28; clear hF15 hM0
  refine s1 hF26 6 (.slice ao1 u0.length cap2) ?_; intro a29 hF30; clear hF26
  have hM31 : Mem w.heap.size [] w Z [.own (tyInt .u8) 5 (some ⟨b24, 0, none⟩) 0 ([] : List Int)] Z wd27 := hM28.rowOwn (T := (tyInt .u8)) (xs := ([] : List Int)) 0 rfl (by decide) (by show 0 ≤ lim; decide) (RepAll.nil _ _); clear hM28
  have hc32 := hp22.1; have hp33 := hp22.2; clear hp22
  refine ap hF30 hM31 0 (T := (tyInt .u8)) (xs := ([] : List Int)) (ys := u0) (ao := (some ⟨b24, 0, none⟩)) (cap := 0) (ao2 := ao1) (cap2 := cap2) (t := 36) (e := 5) (bytes := 1) (nog rfl _) rfl (by kernel_rfl) rfl (by kernel_rfl) (by kernel_rfl) (by kernel_rfl) rfl (Src.fz (by decide) hM31.fz hs3) hc32 ?_; intro ao34 cap35 a39 wd36 hnil37 hF40 hM38; clear hF30 hM31
  have hM41 : Mem w.heap.size [] w Z [.own (tyInt .u8) 5 ao34 cap35 (([] : List Int) ++ u0)] Z wd36 := hM38; clear hM38
  refine s1 hF40 2 (.slice ao34 (([] : List Int) ++ u0).length cap35) ?_; intro a42 hF43; clear hF40
  refine nlH (hQ23 _ _ ?_); clear hQ23 hQ23Q
  refine wp_ret ?_
  refine rt (fn := Try.f57) (v := .slice ao34 (([] : List Int) ++ u0).length cap35) hF43 (re1 hF43 (fn := Try.f57) rfl (by kernel_rfl)) ?_
  exact ⟨([] : List Int) ++ u0, ao34, cap35, Z, rfl, hp33, hM41.keep (List.Sublist.cons_cons _ (List.Sublist.slnil))⟩

set_option maxRecDepth 100000 in
theorem prow_walk (u0 : List Int) (u1 : List Int) (ao1 : Option Addr) (cap2 : Nat) (ao4 : Option Addr) (cap5 : Nat) (B : Nat) (w0 : World) (Z0 : Fz) (Rr : List Res) (Z : Fz) (w : World) (hs3 : SlR (tyInt .u8) Z ao1 cap2 u0) (hM0 : Mem B [] w0 Z0 ((.own (tyInt .u8) 5 ao4 cap5 u1) :: Rr) Z w) (hZ : Z.on w) {K : (List Int) → Prop} (hp : prow_vc u0 u1 K) : Calls Try.prog 58 #[.slice ao1 u0.length cap2, .slice ao4 u1.length cap5] w fun e w' => ∃ (r : (List Int)) (ao1001 : Option Addr) (cap1002 : Nat) (Z' : Fz), e = .returned (.slice ao1001 r.length cap1002) ∧ K r ∧ Fz.le Z Z' ∧ Mem B [] w0 Z0 ((.own (tyInt .u8) 5 ao1001 cap1002 r) :: Rr) Z' w' := by
 refine enter0 Try.func58 rfl rfl (by kernel_rfl) ?_; intro a0 hF0; have hle0 := Fz.le.refl Z
 have hp6 := hp (hs3.small); clear hp
 have hp7 := hp6 (hM0.ownSmall 0 rfl); clear hp6
 refine sqH ?_; intro hQ8Q hQ8
 refine s1 hF0 4 (.slice none 0 0) ?_; intro a9 hF10; clear hF0
 refine nlH (hQ8 _ _ ?_); clear hQ8 hQ8Q
 refine sqH ?_; intro hQ11Q hQ11
 refine s1 hF10 5 (.slice ao4 u1.length cap5) ?_; intro a12 hF13; clear hF10
 refine s1 hF13 6 (.slice ao1 u0.length cap2) ?_; intro a14 hF15; clear hF13
 have hc16 := hp7.1; have hp17 := hp7.2; clear hp7
 refine ap hF15 hM0 0 (T := (tyInt .u8)) (xs := u1) (ys := u0) (ao := ao4) (cap := cap5) (ao2 := ao1) (cap2 := cap2) (t := 36) (e := 5) (bytes := 1) (nog rfl _) rfl (by kernel_rfl) rfl (by kernel_rfl) (by kernel_rfl) (by kernel_rfl) rfl (Src.fz (by decide) hM0.fz hs3) hc16 ?_; intro ao18 cap19 a23 wd20 hnil21 hF24 hM22; clear hF15 hM0
 have hM25 : Mem B [] w0 Z0 ((.own (tyInt .u8) 5 ao18 cap19 (u1 ++ u0)) :: Rr) Z wd20 := hM22; clear hM22
 refine s1 hF24 4 (.slice ao18 (u1 ++ u0).length cap19) ?_; intro a26 hF27; clear hF24
 refine nlH (hQ11 _ _ ?_); clear hQ11 hQ11Q
 refine wp_ret ?_
 refine rt (fn := Try.f58) (v := .slice ao18 (u1 ++ u0).length cap19) hF27 (re1 hF27 (fn := Try.f58) rfl (by kernel_rfl)) ?_
 exact ⟨u1 ++ u0, ao18, cap19, Z, rfl, hp17, hle0, hM25.keep (List.Sublist.cons_cons _ (List.Sublist.refl _))⟩

set_option maxRecDepth 100000 in
theorem bgrow_walk (u1 : Int)  (Z : Fz) (w : World)  (hZ : Z.on w) {K : (List Int) → Prop} (hp : bgrow_vc u1 K) : Calls Try.prog 62 #[.slice none 0 0, .int .i64 u1] w fun e w' => ∃ (r : (List Int)) (ao1001 : Option Addr) (cap1002 : Nat) (Z' : Fz), e = .returned (.slice ao1001 r.length cap1002) ∧ K r ∧ Mem w.heap.size [] w Z [.own (tyInt .u8) 5 ao1001 cap1002 r] Z' w' := by
 refine enter0 Try.func62 rfl rfl (by kernel_rfl) ?_; intro a0 hF0; have hM0 := Mem.start w Z hZ; have hle0 := Fz.le.refl Z
 refine sqH ?_; intro hQ1Q hQ1
 refine s1 hF0 4 (.slice none 0 0) ?_; intro a2 hF3; clear hF0
 refine nlH (hQ1 _ _ ?_); clear hQ1 hQ1Q
 refine wp_seq ?_
 refine sqH ?_; intro hQ4Q hQ4
 refine s1 hF3 5 (.int .i64 u1) ?_; intro a5 hF6; clear hF3
 refine s1 hF6 6 (.bool (decide (u1 < 0))) ?_; intro a7 hF8; clear hF6
 refine nlH (hQ4 _ _ ?_); clear hQ4 hQ4Q
 refine cd hF8 (t := decide (u1 < 0)) (by kernel_rfl) (fun hb9 => ?_) (fun hb9 => ?_)
 · -- yes
  have hp10 := hp.1 hb9; clear hp
  exact False.elim hp10
 · -- no
  have hp11 := hp.2 hb9; clear hp
  refine wp_skip ?_
  refine thn ?_
  refine wp_seq ?_
  refine sqH ?_; intro hQ12Q hQ12
  refine s1 hF8 8 (.int .i64 u1) ?_; intro a13 hF14; clear hF8
  refine s1 hF14 9 (.slice none 0 0) ?_; intro a15 hF16; clear hF14
  refine s1 hF16 10 (.int .i64 0) ?_; intro a17 hF18; clear hF16
  refine s1 hF18 11 (.slice none 0 0) ?_; intro a19 hF20; clear hF18
  refine s1 hF20 12 (.int .i64 0) ?_; intro a21 hF22; clear hF20
  refine s1 hF22 13 (.int .i64 0) ?_; intro a23 hF24; clear hF22
  refine s1 hF24 14 (.int .i64 (w64 (u1 - 0))) ?_; intro a25 hF26; clear hF24
  refine s1 hF26 1 (.int .i64 (w64 (u1 - 0))) ?_; intro a27 hF28; clear hF26
  refine nlH (hQ12 _ _ ?_); clear hQ12 hQ12Q
  refine sqH ?_; intro hQ29Q hQ29
  refine s1 hF28 15 (.int .i64 (w64 (u1 - 0))) ?_; intro a30 hF31; clear hF28
  refine s1 hF31 16 (.bool (decide ((w64 (u1 - 0)) > 0))) ?_; intro a32 hF33; clear hF31
  refine nlH (hQ29 _ _ ?_); clear hQ29 hQ29Q
  refine cd hF33 (t := decide ((w64 (u1 - 0)) > 0)) (by kernel_rfl) (fun hb34 => ?_) (fun hb34 => ?_)
  · -- yes
   have hp35 := hp11.1 hb34; clear hp11
   refine rgH ?_; intro hQ36Q hQ36
   refine s1 hF33 17 (.slice none 0 0) ?_; intro a37 hF38; clear hF33
   refine s1 hF38 18 (.slice none 0 0) ?_; intro a39 hF40; clear hF38
   refine s1 hF40 19 (.int .i64 0) ?_; intro a41 hF42; clear hF40
   refine s1 hF42 20 (.slice none 0 0) ?_; intro a43 hF44; clear hF42
   refine s1 hF44 21 (.int .i64 (w64 (u1 - 0))) ?_; intro a45 hF46; clear hF44
   have hc47 := hp35.1; have hp48 := hp35.2; clear hp35
   refine apz hF46 hM0 (T := (tyInt .u8)) (w64 (u1 - 0)) (kx := .i64) (kk := .i64) (e := 5) (bytes := 1) (zs := [.int .u8 0]) (z := (0 : Int)) (by simp only [lim]; omega) (nog rfl _) rfl (by kernel_rfl) rfl (by kernel_rfl) (by kernel_rfl) (by kernel_rfl) (by kernel_rfl) (by kernel_rfl) rfl ?_; intro ao49 cap50 a53 wd51 hF54 hM52; clear hF46 hM0
   refine s1 hF54 23 (.slice none 0 0) ?_; intro a55 hF56; clear hF54
   refine s1 hF56 24 (.int .i64 0) ?_; intro a57 hF58; clear hF56
   have hc59 := hp48.1; have hp60 := hp48.2; clear hp48
   refine slt hF58 hM52 0 (T := (tyInt .u8)) (xs := (List.replicate (w64 (u1 - 0)).toNat (0 : Int))) (ao := ao49) (cap := cap50) (0 : Int).toNat (by omega) (e := 5) (bytes := 1) (k := .i64) (nog rfl _) rfl (by kernel_rfl) rfl (by kernel_rfl) rfl (by kernel_rfl) (by rw [Int.toNat_of_nonneg (by omega)]; kernel_rfl) ?_; intro a61 hF62 hM63; clear hF58 hM52
   have hM64 : Mem w.heap.size [] w Z [.own (tyInt .u8) 5 ao49 cap50 ((List.replicate (w64 (u1 - 0)).toNat (0 : Int)).take (0 : Int).toNat)] Z wd51 := hM63; clear hM63
   refine s1 hF62 0 (.slice ao49 ((List.replicate (w64 (u1 - 0)).toNat (0 : Int)).take (0 : Int).toNat).length cap50) ?_; intro a65 hF66; clear hF62
   refine nlH (hQ36 _ _ ?_); clear hQ36 hQ36Q
   refine thn ?_
   have hF67 : Fr 27 [] [⟨0, [], .slice ao49 ((List.replicate (w64 (u1 - 0)).toNat (0 : Int)).take (0 : Int).toNat).length cap50⟩] a65 := hF66.region (by kernel_rfl) (by kernel_rfl); clear hF66
   refine sqH ?_; intro hQ68Q hQ68
   refine s1 hF67 26 (.slice ao49 ((List.replicate (w64 (u1 - 0)).toNat (0 : Int)).take (0 : Int).toNat).length cap50) ?_; intro a69 hF70; clear hF67
   refine s1 hF70 4 (.slice ao49 ((List.replicate (w64 (u1 - 0)).toNat (0 : Int)).take (0 : Int).toNat).length cap50) ?_; intro a71 hF72; clear hF70
   refine nlH (hQ68 _ _ ?_); clear hQ68 hQ68Q
   refine wp_ret ?_
   refine rt (fn := Try.f62) (v := .slice ao49 ((List.replicate (w64 (u1 - 0)).toNat (0 : Int)).take (0 : Int).toNat).length cap50) hF72 (re1 hF72 (fn := Try.f62) rfl (by kernel_rfl)) ?_
   exact ⟨((List.replicate (w64 (u1 - 0)).toNat (0 : Int)).take (0 : Int).toNat), ao49, cap50, Z, rfl, hp60, hM64.keep (List.Sublist.cons_cons _ (List.Sublist.slnil))⟩
  · -- no
   have hp73 := hp11.2 hb34; clear hp11
   refine wp_skip ?_
   refine thn ?_
   refine sqH ?_; intro hQ74Q hQ74
   refine s1 hF33 26 (.slice none 0 0) ?_; intro a75 hF76; clear hF33
   refine s1 hF76 4 (.slice none 0 0) ?_; intro a77 hF78; clear hF76
   refine nlH (hQ74 _ _ ?_); clear hQ74 hQ74Q
   refine wp_ret ?_
   have hM79 : Mem w.heap.size [] w Z [.own (tyInt .u8) 5 none 0 ([] : List Int)] Z w := hM0.addNil (tyInt .u8) 5 (by decide); clear hM0
   refine rt (fn := Try.f62) (v := .slice none ([] : List Int).length 0) hF78 (re1 hF78 (fn := Try.f62) rfl (by kernel_rfl)) ?_
   exact ⟨([] : List Int), none, 0, Z, rfl, hp73, hM79.keep (List.Sublist.cons_cons _ (List.Sublist.slnil))⟩

set_option maxRecDepth 100000 in
theorem pchecks_walk (u0 : Sender) (ao1 : Option Addr) (cap2 : Nat) (Z : Fz) (w : World) (hs3 : SlR (tyInt .u8) Z ao1 cap2 u0.Data) (hZ : Z.on w) {K : Int → Prop} (hp : pchecks_vc u0 K) : Calls Try.prog 34 #[.agg #[.slice ao1 u0.Data.length cap2, .int .i64 u0.At, .int .i64 u0.Next, .int .i64 u0.Left, .bool u0.Done]] w fun e w' => ∃ r : Int, e = .returned (.int .i64 r) ∧ K r ∧ Below w.heap.size w w' := by
 refine enter0 Try.func34 rfl rfl (by kernel_rfl) ?_; intro a0 hF0; have hM0 := Mem.start w Z hZ; have hle0 := Fz.le.refl Z
 have hp4 := hp (hs3.small); clear hp
 refine sqH ?_; intro hQ5Q hQ5
 refine sn hF0 hM0 (fun b => .pointer (some ⟨b, 0, none⟩)) [.slice ao1 u0.Data.length cap2, .int .i64 u0.At, .int .i64 u0.Next, .int .i64 u0.Left, .bool u0.Done] 53 (nog rfl _) rfl (by kernel_rfl) (by kernel_rfl) ?_; intro b6 a7 wd9 hF8 hM10; clear hF0 hM0
 refine s1 hF8 2 (.int .i64 0) ?_; intro a11 hF12; clear hF8
 refine nlH (hQ5 _ _ ?_); clear hQ5 hQ5Q
 refine sqH ?_; intro hQ13Q hQ13
 refine s1 hF12 4 (.pointer (some ⟨b6, 0, none⟩)) ?_; intro a14 hF15; clear hF12
 refine l1 hF15 hM10 5 0 0 (.slice ao1 u0.Data.length cap2) rfl rfl ?_; intro a16 hF17; clear hF15
 refine s1 hF17 6 (.int .i64 (u0.Data.length : Int)) ?_; intro a18 hF19; clear hF17
 refine s1 hF19 3 (.int .i64 (u0.Data.length : Int)) ?_; intro a20 hF21; clear hF19
 refine nlH (hQ13 _ _ ?_); clear hQ13 hQ13Q
 refine wp_seq ?_
 refine wp_block ?_
 refine sqH ?_; intro hQ22Q hQ22
 refine s1 hF21 8 (.int .i64 (u0.Data.length : Int)) ?_; intro a23 hF24; clear hF21
 refine s1 hF24 9 (.bool (decide ((u0.Data.length : Int) > 300))) ?_; intro a25 hF26; clear hF24
 refine s1 hF26 7 (.bool (decide ((u0.Data.length : Int) > 300))) ?_; intro a27 hF28; clear hF26
 refine nlH (hQ22 _ _ ?_); clear hQ22 hQ22Q
 refine cd hF28 (t := decide ((u0.Data.length : Int) > 300)) (by kernel_rfl) (fun hb29 => ?_) (fun hb29 => ?_)
 · -- yes
  have hp30 := hp4.1 hb29; clear hp4
  refine sqH ?_; intro hQ31Q hQ31
  refine s1 hF28 2 (.int .i64 2) ?_; intro a32 hF33; clear hF28
  refine nlH (hQ31 _ _ ?_); clear hQ31 hQ31Q
  refine wp_ret ?_
  refine ibr ?_
  refine thr ?_
  refine rt (fn := Try.f34) (v := .int .i64 2) hF33 (re1 hF33 (fn := Try.f34) rfl (by kernel_rfl)) ?_
  exact ⟨2, rfl, hp30, hM10.below⟩
 · -- no
  have hp34 := hp4.2 hb29; clear hp4
  refine sqH ?_; intro hQ35Q hQ35
  refine s1 hF28 11 (.int .i64 (u0.Data.length : Int)) ?_; intro a36 hF37; clear hF28
  refine s1 hF37 12 (.bool ((u0.Data.length : Int) == 0)) ?_; intro a38 hF39; clear hF37
  refine s1 hF39 13 (.bool ((u0.Data.length : Int) == 0)) ?_; intro a40 hF41; clear hF39
  have hF42 := hF41.atom (((u0.Data.length : Int) == 0) == false) (by kernel_rfl); clear hF41
  refine gp hF42 14 0 [] ((u0.Data.length : Int) == 0) (.pointer (some ⟨b6, 1, none⟩)) rfl rfl ?_; intro a43 hF44; clear hF42
  refine gd hF44 (.int .i64 u0.At) (m := 0) (cj := []) (bj := (u0.Data.length : Int) == 0) rfl rfl (by kernel_rfl) rfl (by kernel_rfl) (by kernel_rfl) (by kernel_rfl) (fun hg => ld hF44 hM10 0 (g := [0]) (b := b6) (off := 1) (cs := [.slice ao1 u0.Data.length cap2, .int .i64 u0.At, .int .i64 u0.Next, .int .i64 u0.Left, .bool u0.Done]) (ty := 53) rfl (by kernel_rfl) (by kernel_rfl) (by kernel_rfl) (by kernel_rfl) hg) ?_; intro a45 hF46; clear hF44
  refine gp hF46 16 0 [] ((u0.Data.length : Int) == 0) (.bool (decide (u0.At < 0))) rfl rfl ?_; intro a47 hF48; clear hF46
  refine st hF48 (.bool (((u0.Data.length : Int) == 0) || (decide (u0.At < 0)))) (nog rfl _) rfl (by kernel_rfl) (pk_or hF48 (g := []) (m := 0) (b := (u0.Data.length : Int) == 0) (v := decide (u0.At < 0)) rfl (by kernel_rfl) (by kernel_rfl) (by kernel_rfl) rfl) ?_; intro a49 hF50; clear hF48
  refine s1 hF50 18 (.bool (((u0.Data.length : Int) == 0) || (decide (u0.At < 0)))) ?_; intro a51 hF52; clear hF50
  have hF53 := hF52.atom ((((u0.Data.length : Int) == 0) || (decide (u0.At < 0))) == false) (by kernel_rfl); clear hF52
  refine gp hF53 19 1 [] (((u0.Data.length : Int) == 0) || (decide (u0.At < 0))) (.pointer (some ⟨b6, 1, none⟩)) rfl rfl ?_; intro a54 hF55; clear hF53
  refine gd hF55 (.int .i64 u0.At) (m := 1) (cj := []) (bj := ((u0.Data.length : Int) == 0) || (decide (u0.At < 0))) rfl rfl (by kernel_rfl) rfl (by kernel_rfl) (by kernel_rfl) (by kernel_rfl) (fun hg => ld hF55 hM10 0 (g := [1]) (b := b6) (off := 1) (cs := [.slice ao1 u0.Data.length cap2, .int .i64 u0.At, .int .i64 u0.Next, .int .i64 u0.Left, .bool u0.Done]) (ty := 53) rfl (by kernel_rfl) (by kernel_rfl) (by kernel_rfl) (by kernel_rfl) hg) ?_; intro a56 hF57; clear hF55
  refine gp hF57 21 1 [] (((u0.Data.length : Int) == 0) || (decide (u0.At < 0))) (.int .i64 (u0.Data.length : Int)) rfl rfl ?_; intro a58 hF59; clear hF57
  refine gp hF59 22 1 [] (((u0.Data.length : Int) == 0) || (decide (u0.At < 0))) (.bool (decide (u0.At > (u0.Data.length : Int)))) rfl rfl ?_; intro a60 hF61; clear hF59
  refine st hF61 (.bool ((((u0.Data.length : Int) == 0) || (decide (u0.At < 0))) || (decide (u0.At > (u0.Data.length : Int))))) (nog rfl _) rfl (by kernel_rfl) (pk_or hF61 (g := []) (m := 1) (b := ((u0.Data.length : Int) == 0) || (decide (u0.At < 0))) (v := decide (u0.At > (u0.Data.length : Int))) rfl (by kernel_rfl) (by kernel_rfl) (by kernel_rfl) rfl) ?_; intro a62 hF63; clear hF61
  refine s1 hF63 24 (.bool ((((u0.Data.length : Int) == 0) || (decide (u0.At < 0))) || (decide (u0.At > (u0.Data.length : Int))))) ?_; intro a64 hF65; clear hF63
  have hF66 := hF65.atom (((((u0.Data.length : Int) == 0) || (decide (u0.At < 0))) || (decide (u0.At > (u0.Data.length : Int)))) == false) (by kernel_rfl); clear hF65
  refine gp hF66 25 2 [] ((((u0.Data.length : Int) == 0) || (decide (u0.At < 0))) || (decide (u0.At > (u0.Data.length : Int)))) (.pointer (some ⟨b6, 3, none⟩)) rfl rfl ?_; intro a67 hF68; clear hF66
  refine gd hF68 (.int .i64 u0.Left) (m := 2) (cj := []) (bj := (((u0.Data.length : Int) == 0) || (decide (u0.At < 0))) || (decide (u0.At > (u0.Data.length : Int)))) rfl rfl (by kernel_rfl) rfl (by kernel_rfl) (by kernel_rfl) (by kernel_rfl) (fun hg => ld hF68 hM10 0 (g := [2]) (b := b6) (off := 3) (cs := [.slice ao1 u0.Data.length cap2, .int .i64 u0.At, .int .i64 u0.Next, .int .i64 u0.Left, .bool u0.Done]) (ty := 53) rfl (by kernel_rfl) (by kernel_rfl) (by kernel_rfl) (by kernel_rfl) hg) ?_; intro a69 hF70; clear hF68
  refine gp hF70 27 2 [] ((((u0.Data.length : Int) == 0) || (decide (u0.At < 0))) || (decide (u0.At > (u0.Data.length : Int)))) (.bool (decide (u0.Left < (-1)))) rfl rfl ?_; intro a71 hF72; clear hF70
  refine st hF72 (.bool (((((u0.Data.length : Int) == 0) || (decide (u0.At < 0))) || (decide (u0.At > (u0.Data.length : Int)))) || (decide (u0.Left < (-1))))) (nog rfl _) rfl (by kernel_rfl) (pk_or hF72 (g := []) (m := 2) (b := (((u0.Data.length : Int) == 0) || (decide (u0.At < 0))) || (decide (u0.At > (u0.Data.length : Int)))) (v := decide (u0.Left < (-1))) rfl (by kernel_rfl) (by kernel_rfl) (by kernel_rfl) rfl) ?_; intro a73 hF74; clear hF72
  refine s1 hF74 29 (.bool (((((u0.Data.length : Int) == 0) || (decide (u0.At < 0))) || (decide (u0.At > (u0.Data.length : Int)))) || (decide (u0.Left < (-1))))) ?_; intro a75 hF76; clear hF74
  have hF77 := hF76.atom ((((((u0.Data.length : Int) == 0) || (decide (u0.At < 0))) || (decide (u0.At > (u0.Data.length : Int)))) || (decide (u0.Left < (-1)))) == false) (by kernel_rfl); clear hF76
  refine gp hF77 30 3 [] (((((u0.Data.length : Int) == 0) || (decide (u0.At < 0))) || (decide (u0.At > (u0.Data.length : Int)))) || (decide (u0.Left < (-1)))) (.pointer (some ⟨b6, 3, none⟩)) rfl rfl ?_; intro a78 hF79; clear hF77
  refine gd hF79 (.int .i64 u0.Left) (m := 3) (cj := []) (bj := ((((u0.Data.length : Int) == 0) || (decide (u0.At < 0))) || (decide (u0.At > (u0.Data.length : Int)))) || (decide (u0.Left < (-1)))) rfl rfl (by kernel_rfl) rfl (by kernel_rfl) (by kernel_rfl) (by kernel_rfl) (fun hg => ld hF79 hM10 0 (g := [3]) (b := b6) (off := 3) (cs := [.slice ao1 u0.Data.length cap2, .int .i64 u0.At, .int .i64 u0.Next, .int .i64 u0.Left, .bool u0.Done]) (ty := 53) rfl (by kernel_rfl) (by kernel_rfl) (by kernel_rfl) (by kernel_rfl) hg) ?_; intro a80 hF81; clear hF79
  refine gp hF81 32 3 [] (((((u0.Data.length : Int) == 0) || (decide (u0.At < 0))) || (decide (u0.At > (u0.Data.length : Int)))) || (decide (u0.Left < (-1)))) (.bool (decide (u0.Left > 255))) rfl rfl ?_; intro a82 hF83; clear hF81
  refine st hF83 (.bool ((((((u0.Data.length : Int) == 0) || (decide (u0.At < 0))) || (decide (u0.At > (u0.Data.length : Int)))) || (decide (u0.Left < (-1)))) || (decide (u0.Left > 255)))) (nog rfl _) rfl (by kernel_rfl) (pk_or hF83 (g := []) (m := 3) (b := ((((u0.Data.length : Int) == 0) || (decide (u0.At < 0))) || (decide (u0.At > (u0.Data.length : Int)))) || (decide (u0.Left < (-1)))) (v := decide (u0.Left > 255)) rfl (by kernel_rfl) (by kernel_rfl) (by kernel_rfl) rfl) ?_; intro a84 hF85; clear hF83
  refine s1 hF85 34 (.bool ((((((u0.Data.length : Int) == 0) || (decide (u0.At < 0))) || (decide (u0.At > (u0.Data.length : Int)))) || (decide (u0.Left < (-1)))) || (decide (u0.Left > 255)))) ?_; intro a86 hF87; clear hF85
  have hF88 := hF87.atom (((((((u0.Data.length : Int) == 0) || (decide (u0.At < 0))) || (decide (u0.At > (u0.Data.length : Int)))) || (decide (u0.Left < (-1)))) || (decide (u0.Left > 255))) == false) (by kernel_rfl); clear hF87
  refine gp hF88 35 4 [] ((((((u0.Data.length : Int) == 0) || (decide (u0.At < 0))) || (decide (u0.At > (u0.Data.length : Int)))) || (decide (u0.Left < (-1)))) || (decide (u0.Left > 255))) (.pointer (some ⟨b6, 2, none⟩)) rfl rfl ?_; intro a89 hF90; clear hF88
  refine gd hF90 (.int .i64 u0.Next) (m := 4) (cj := []) (bj := (((((u0.Data.length : Int) == 0) || (decide (u0.At < 0))) || (decide (u0.At > (u0.Data.length : Int)))) || (decide (u0.Left < (-1)))) || (decide (u0.Left > 255))) rfl rfl (by kernel_rfl) rfl (by kernel_rfl) (by kernel_rfl) (by kernel_rfl) (fun hg => ld hF90 hM10 0 (g := [4]) (b := b6) (off := 2) (cs := [.slice ao1 u0.Data.length cap2, .int .i64 u0.At, .int .i64 u0.Next, .int .i64 u0.Left, .bool u0.Done]) (ty := 53) rfl (by kernel_rfl) (by kernel_rfl) (by kernel_rfl) (by kernel_rfl) hg) ?_; intro a91 hF92; clear hF90
  refine gp hF92 37 4 [] ((((((u0.Data.length : Int) == 0) || (decide (u0.At < 0))) || (decide (u0.At > (u0.Data.length : Int)))) || (decide (u0.Left < (-1)))) || (decide (u0.Left > 255))) (.bool (decide (u0.Next < 0))) rfl rfl ?_; intro a93 hF94; clear hF92
  refine st hF94 (.bool (((((((u0.Data.length : Int) == 0) || (decide (u0.At < 0))) || (decide (u0.At > (u0.Data.length : Int)))) || (decide (u0.Left < (-1)))) || (decide (u0.Left > 255))) || (decide (u0.Next < 0)))) (nog rfl _) rfl (by kernel_rfl) (pk_or hF94 (g := []) (m := 4) (b := (((((u0.Data.length : Int) == 0) || (decide (u0.At < 0))) || (decide (u0.At > (u0.Data.length : Int)))) || (decide (u0.Left < (-1)))) || (decide (u0.Left > 255))) (v := decide (u0.Next < 0)) rfl (by kernel_rfl) (by kernel_rfl) (by kernel_rfl) rfl) ?_; intro a95 hF96; clear hF94
  refine s1 hF96 39 (.bool (((((((u0.Data.length : Int) == 0) || (decide (u0.At < 0))) || (decide (u0.At > (u0.Data.length : Int)))) || (decide (u0.Left < (-1)))) || (decide (u0.Left > 255))) || (decide (u0.Next < 0)))) ?_; intro a97 hF98; clear hF96
  have hF99 := hF98.atom ((((((((u0.Data.length : Int) == 0) || (decide (u0.At < 0))) || (decide (u0.At > (u0.Data.length : Int)))) || (decide (u0.Left < (-1)))) || (decide (u0.Left > 255))) || (decide (u0.Next < 0))) == false) (by kernel_rfl); clear hF98
  refine gp hF99 40 5 [] (((((((u0.Data.length : Int) == 0) || (decide (u0.At < 0))) || (decide (u0.At > (u0.Data.length : Int)))) || (decide (u0.Left < (-1)))) || (decide (u0.Left > 255))) || (decide (u0.Next < 0))) (.pointer (some ⟨b6, 2, none⟩)) rfl rfl ?_; intro a100 hF101; clear hF99
  refine gd hF101 (.int .i64 u0.Next) (m := 5) (cj := []) (bj := ((((((u0.Data.length : Int) == 0) || (decide (u0.At < 0))) || (decide (u0.At > (u0.Data.length : Int)))) || (decide (u0.Left < (-1)))) || (decide (u0.Left > 255))) || (decide (u0.Next < 0))) rfl rfl (by kernel_rfl) rfl (by kernel_rfl) (by kernel_rfl) (by kernel_rfl) (fun hg => ld hF101 hM10 0 (g := [5]) (b := b6) (off := 2) (cs := [.slice ao1 u0.Data.length cap2, .int .i64 u0.At, .int .i64 u0.Next, .int .i64 u0.Left, .bool u0.Done]) (ty := 53) rfl (by kernel_rfl) (by kernel_rfl) (by kernel_rfl) (by kernel_rfl) hg) ?_; intro a102 hF103; clear hF101
  refine gp hF103 42 5 [] (((((((u0.Data.length : Int) == 0) || (decide (u0.At < 0))) || (decide (u0.At > (u0.Data.length : Int)))) || (decide (u0.Left < (-1)))) || (decide (u0.Left > 255))) || (decide (u0.Next < 0))) (.bool (decide (u0.Next > 15))) rfl rfl ?_; intro a104 hF105; clear hF103
  refine st hF105 (.bool ((((((((u0.Data.length : Int) == 0) || (decide (u0.At < 0))) || (decide (u0.At > (u0.Data.length : Int)))) || (decide (u0.Left < (-1)))) || (decide (u0.Left > 255))) || (decide (u0.Next < 0))) || (decide (u0.Next > 15)))) (nog rfl _) rfl (by kernel_rfl) (pk_or hF105 (g := []) (m := 5) (b := ((((((u0.Data.length : Int) == 0) || (decide (u0.At < 0))) || (decide (u0.At > (u0.Data.length : Int)))) || (decide (u0.Left < (-1)))) || (decide (u0.Left > 255))) || (decide (u0.Next < 0))) (v := decide (u0.Next > 15)) rfl (by kernel_rfl) (by kernel_rfl) (by kernel_rfl) rfl) ?_; intro a106 hF107; clear hF105
  refine s1 hF107 10 (.bool ((((((((u0.Data.length : Int) == 0) || (decide (u0.At < 0))) || (decide (u0.At > (u0.Data.length : Int)))) || (decide (u0.Left < (-1)))) || (decide (u0.Left > 255))) || (decide (u0.Next < 0))) || (decide (u0.Next > 15)))) ?_; intro a108 hF109; clear hF107
  refine nlH (hQ35 _ _ ?_); clear hQ35 hQ35Q
  refine cd hF109 (t := (((((((u0.Data.length : Int) == 0) || (decide (u0.At < 0))) || (decide (u0.At > (u0.Data.length : Int)))) || (decide (u0.Left < (-1)))) || (decide (u0.Left > 255))) || (decide (u0.Next < 0))) || (decide (u0.Next > 15))) (by kernel_rfl) (fun hb110 => ?_) (fun hb110 => ?_)
  · -- yes
   have hp111 := hp34.1 hb110; clear hp34
   have hF112 : Fr 114 [] [] a108 := hF109.region (by kernel_rfl) (by kernel_rfl); clear hF109
   refine sqH ?_; intro hQ113Q hQ113
   refine s1 hF112 2 (.int .i64 3) ?_; intro a114 hF115; clear hF112
   refine nlH (hQ113 _ _ ?_); clear hQ113 hQ113Q
   refine wp_ret ?_
   refine ibr ?_
   refine thr ?_
   refine rt (fn := Try.f34) (v := .int .i64 3) hF115 (re1 hF115 (fn := Try.f34) rfl (by kernel_rfl)) ?_
   exact ⟨3, rfl, hp111, hM10.below⟩
  · -- no
   have hp116 := hp34.2 hb110; clear hp34
   have hF117 : Fr 114 [] [⟨1, [], .pointer (some ⟨b6, 0, none⟩)⟩, ⟨3, [], .int .i64 (u0.Data.length : Int)⟩] a108 := hF109.region (by kernel_rfl) (by kernel_rfl); clear hF109
   refine sqH ?_; intro hQ118Q hQ118
   refine s1 hF117 45 (.pointer (some ⟨b6, 4, none⟩)) ?_; intro a119 hF120; clear hF117
   refine l1 hF120 hM10 46 0 4 (.bool u0.Done) rfl rfl ?_; intro a121 hF122; clear hF120
   refine s1 hF122 47 (.pointer (some ⟨b6, 1, none⟩)) ?_; intro a123 hF124; clear hF122
   refine l1 hF124 hM10 48 0 1 (.int .i64 u0.At) rfl rfl ?_; intro a125 hF126; clear hF124
   refine s1 hF126 49 (.int .i64 (u0.Data.length : Int)) ?_; intro a127 hF128; clear hF126
   refine s1 hF128 50 (.bool (u0.At == (u0.Data.length : Int))) ?_; intro a129 hF130; clear hF128
   refine s1 hF130 51 (.bool (u0.Done != (u0.At == (u0.Data.length : Int)))) ?_; intro a131 hF132; clear hF130
   refine s1 hF132 52 (.bool (u0.Done != (u0.At == (u0.Data.length : Int)))) ?_; intro a133 hF134; clear hF132
   have hF135 := hF134.atom ((u0.Done != (u0.At == (u0.Data.length : Int))) == false) (by kernel_rfl); clear hF134
   refine gp hF135 53 0 [] (u0.Done != (u0.At == (u0.Data.length : Int))) (.pointer (some ⟨b6, 4, none⟩)) rfl rfl ?_; intro a136 hF137; clear hF135
   refine gd hF137 (.bool u0.Done) (m := 0) (cj := []) (bj := u0.Done != (u0.At == (u0.Data.length : Int))) rfl rfl (by kernel_rfl) rfl (by kernel_rfl) (by kernel_rfl) (by kernel_rfl) (fun hg => ld hF137 hM10 0 (g := [0]) (b := b6) (off := 4) (cs := [.slice ao1 u0.Data.length cap2, .int .i64 u0.At, .int .i64 u0.Next, .int .i64 u0.Left, .bool u0.Done]) (ty := 53) rfl (by kernel_rfl) (by kernel_rfl) (by kernel_rfl) (by kernel_rfl) hg) ?_; intro a138 hF139; clear hF137
   refine gp hF139 55 0 [] (u0.Done != (u0.At == (u0.Data.length : Int))) (.bool u0.Done) rfl rfl ?_; intro a140 hF141; clear hF139
   have hF142 := hF141.atom (u0.Done == true) (by kernel_rfl); clear hF141
   refine gp hF142 56 1 [0] (u0.Done) (.pointer (some ⟨b6, 3, none⟩)) rfl rfl ?_; intro a143 hF144; clear hF142
   refine gd hF144 (.int .i64 u0.Left) (m := 1) (cj := [0]) (bj := u0.Done) rfl rfl (by kernel_rfl) rfl (by kernel_rfl) (by kernel_rfl) (by kernel_rfl) (fun hg => ld hF144 hM10 0 (g := [1, 0]) (b := b6) (off := 3) (cs := [.slice ao1 u0.Data.length cap2, .int .i64 u0.At, .int .i64 u0.Next, .int .i64 u0.Left, .bool u0.Done]) (ty := 53) rfl (by kernel_rfl) (by kernel_rfl) (by kernel_rfl) (by kernel_rfl) hg) ?_; intro a145 hF146; clear hF144
   refine gp hF146 58 1 [0] (u0.Done) (.bool (u0.Left != 0)) rfl rfl ?_; intro a147 hF148; clear hF146
   refine gd hF148 (.bool (u0.Done && (u0.Left != 0))) (m := 0) (cj := []) (bj := u0.Done != (u0.At == (u0.Data.length : Int))) rfl rfl (by kernel_rfl) rfl (by kernel_rfl) (by kernel_rfl) (by kernel_rfl) (fun hg => pk_and hF148 (g := [0]) (m := 1) (b := u0.Done) (v := u0.Left != 0) rfl (by kernel_rfl) (by kernel_rfl) (by kernel_rfl) hg) ?_; intro a149 hF150; clear hF148
   refine st hF150 (.bool ((u0.Done != (u0.At == (u0.Data.length : Int))) || (u0.Done && (u0.Left != 0)))) (nog rfl _) rfl (by kernel_rfl) (pk_or hF150 (g := []) (m := 0) (b := u0.Done != (u0.At == (u0.Data.length : Int))) (v := u0.Done && (u0.Left != 0)) rfl (by kernel_rfl) (by kernel_rfl) (by kernel_rfl) rfl) ?_; intro a151 hF152; clear hF150
   refine s1 hF152 44 (.bool ((u0.Done != (u0.At == (u0.Data.length : Int))) || (u0.Done && (u0.Left != 0)))) ?_; intro a153 hF154; clear hF152
   refine nlH (hQ118 _ _ ?_); clear hQ118 hQ118Q
   refine cd hF154 (t := (u0.Done != (u0.At == (u0.Data.length : Int))) || (u0.Done && (u0.Left != 0))) (by kernel_rfl) (fun hb155 => ?_) (fun hb155 => ?_)
   · -- yes
    have hp156 := hp116.1 hb155; clear hp116
    have hF157 : Fr 114 [] [] a153 := hF154.region (by kernel_rfl) (by kernel_rfl); clear hF154
    refine sqH ?_; intro hQ158Q hQ158
    refine s1 hF157 2 (.int .i64 4) ?_; intro a159 hF160; clear hF157
    refine nlH (hQ158 _ _ ?_); clear hQ158 hQ158Q
    refine wp_ret ?_
    refine ibr ?_
    refine thr ?_
    refine rt (fn := Try.f34) (v := .int .i64 4) hF160 (re1 hF160 (fn := Try.f34) rfl (by kernel_rfl)) ?_
    exact ⟨4, rfl, hp156, hM10.below⟩
   · -- no
    have hp161 := hp116.2 hb155; clear hp116
    have hF162 : Fr 114 [] [⟨1, [], .pointer (some ⟨b6, 0, none⟩)⟩, ⟨3, [], .int .i64 (u0.Data.length : Int)⟩] a153 := hF154.region (by kernel_rfl) (by kernel_rfl); clear hF154
    refine sqH ?_; intro hQ163Q hQ163
    refine s1 hF162 62 (.int .i64 (u0.Data.length : Int)) ?_; intro a164 hF165; clear hF162
    refine s1 hF165 63 (.bool (decide ((u0.Data.length : Int) > 7))) ?_; intro a166 hF167; clear hF165
    refine s1 hF167 64 (.bool (decide ((u0.Data.length : Int) > 7))) ?_; intro a168 hF169; clear hF167
    have hF170 := hF169.atom ((decide ((u0.Data.length : Int) > 7)) == true) (by kernel_rfl); clear hF169
    refine gp hF170 65 0 [] (decide ((u0.Data.length : Int) > 7)) (.pointer (some ⟨b6, 1, none⟩)) rfl rfl ?_; intro a171 hF172; clear hF170
    refine gd hF172 (.int .i64 u0.At) (m := 0) (cj := []) (bj := decide ((u0.Data.length : Int) > 7)) rfl rfl (by kernel_rfl) rfl (by kernel_rfl) (by kernel_rfl) (by kernel_rfl) (fun hg => ld hF172 hM10 0 (g := [0]) (b := b6) (off := 1) (cs := [.slice ao1 u0.Data.length cap2, .int .i64 u0.At, .int .i64 u0.Next, .int .i64 u0.Left, .bool u0.Done]) (ty := 53) rfl (by kernel_rfl) (by kernel_rfl) (by kernel_rfl) (by kernel_rfl) hg) ?_; intro a173 hF174; clear hF172
    refine gp hF174 67 0 [] (decide ((u0.Data.length : Int) > 7)) (.bool (decide (u0.At < 6))) rfl rfl ?_; intro a175 hF176; clear hF174
    refine gp hF176 68 0 [] (decide ((u0.Data.length : Int) > 7)) (.bool (decide (u0.At < 6))) rfl rfl ?_; intro a177 hF178; clear hF176
    have hF179 := hF178.atom ((decide (u0.At < 6)) == false) (by kernel_rfl); clear hF178
    refine gp hF179 69 1 [0] (decide (u0.At < 6)) (.pointer (some ⟨b6, 4, none⟩)) rfl rfl ?_; intro a180 hF181; clear hF179
    refine gd hF181 (.bool u0.Done) (m := 1) (cj := [0]) (bj := decide (u0.At < 6)) rfl rfl (by kernel_rfl) rfl (by kernel_rfl) (by kernel_rfl) (by kernel_rfl) (fun hg => ld hF181 hM10 0 (g := [1, 0]) (b := b6) (off := 4) (cs := [.slice ao1 u0.Data.length cap2, .int .i64 u0.At, .int .i64 u0.Next, .int .i64 u0.Left, .bool u0.Done]) (ty := 53) rfl (by kernel_rfl) (by kernel_rfl) (by kernel_rfl) (by kernel_rfl) hg) ?_; intro a182 hF183; clear hF181
    refine gp hF183 71 1 [0] (decide (u0.At < 6)) (.bool (!u0.Done)) rfl rfl ?_; intro a184 hF185; clear hF183
    refine gp hF185 72 1 [0] (decide (u0.At < 6)) (.bool (!u0.Done)) rfl rfl ?_; intro a186 hF187; clear hF185
    have hF188 := hF187.atom ((!u0.Done) == true) (by kernel_rfl); clear hF187
    refine gp hF188 73 2 [1, 0] (!u0.Done) (.pointer (some ⟨b6, 1, none⟩)) rfl rfl ?_; intro a189 hF190; clear hF188
    refine gd hF190 (.int .i64 u0.At) (m := 2) (cj := [1, 0]) (bj := !u0.Done) rfl rfl (by kernel_rfl) rfl (by kernel_rfl) (by kernel_rfl) (by kernel_rfl) (fun hg => ld hF190 hM10 0 (g := [2, 1, 0]) (b := b6) (off := 1) (cs := [.slice ao1 u0.Data.length cap2, .int .i64 u0.At, .int .i64 u0.Next, .int .i64 u0.Left, .bool u0.Done]) (ty := 53) rfl (by kernel_rfl) (by kernel_rfl) (by kernel_rfl) (by kernel_rfl) hg) ?_; intro a191 hF192; clear hF190
    refine gp hF192 75 2 [1, 0] (!u0.Done) (.int .i64 (w64 (u0.At - 6))) rfl rfl ?_; intro a193 hF194; clear hF192
    refine gp hF194 76 2 [1, 0] (!u0.Done) (.int .i64 ((w64 (u0.At - 6)).tmod 7)) rfl rfl ?_; intro a195 hF196; clear hF194
    refine gp hF196 77 2 [1, 0] (!u0.Done) (.bool (((w64 (u0.At - 6)).tmod 7) != 0)) rfl rfl ?_; intro a197 hF198; clear hF196
    refine gd hF198 (.bool ((!u0.Done) && (((w64 (u0.At - 6)).tmod 7) != 0))) (m := 1) (cj := [0]) (bj := decide (u0.At < 6)) rfl rfl (by kernel_rfl) rfl (by kernel_rfl) (by kernel_rfl) (by kernel_rfl) (fun hg => pk_and hF198 (g := [1, 0]) (m := 2) (b := !u0.Done) (v := ((w64 (u0.At - 6)).tmod 7) != 0) rfl (by kernel_rfl) (by kernel_rfl) (by kernel_rfl) hg) ?_; intro a199 hF200; clear hF198
    refine gd hF200 (.bool ((decide (u0.At < 6)) || ((!u0.Done) && (((w64 (u0.At - 6)).tmod 7) != 0)))) (m := 0) (cj := []) (bj := decide ((u0.Data.length : Int) > 7)) rfl rfl (by kernel_rfl) rfl (by kernel_rfl) (by kernel_rfl) (by kernel_rfl) (fun hg => pk_or hF200 (g := [0]) (m := 1) (b := decide (u0.At < 6)) (v := (!u0.Done) && (((w64 (u0.At - 6)).tmod 7) != 0)) rfl (by kernel_rfl) (by kernel_rfl) (by kernel_rfl) hg) ?_; intro a201 hF202; clear hF200
    refine st hF202 (.bool ((decide ((u0.Data.length : Int) > 7)) && ((decide (u0.At < 6)) || ((!u0.Done) && (((w64 (u0.At - 6)).tmod 7) != 0))))) (nog rfl _) rfl (by kernel_rfl) (pk_and hF202 (g := []) (m := 0) (b := decide ((u0.Data.length : Int) > 7)) (v := (decide (u0.At < 6)) || ((!u0.Done) && (((w64 (u0.At - 6)).tmod 7) != 0))) rfl (by kernel_rfl) (by kernel_rfl) (by kernel_rfl) rfl) ?_; intro a203 hF204; clear hF202
    refine s1 hF204 81 (.bool ((decide ((u0.Data.length : Int) > 7)) && ((decide (u0.At < 6)) || ((!u0.Done) && (((w64 (u0.At - 6)).tmod 7) != 0))))) ?_; intro a205 hF206; clear hF204
    have hF207 := hF206.atom (((decide ((u0.Data.length : Int) > 7)) && ((decide (u0.At < 6)) || ((!u0.Done) && (((w64 (u0.At - 6)).tmod 7) != 0)))) == false) (by kernel_rfl); clear hF206
    refine gp hF207 82 3 [] ((decide ((u0.Data.length : Int) > 7)) && ((decide (u0.At < 6)) || ((!u0.Done) && (((w64 (u0.At - 6)).tmod 7) != 0)))) (.int .i64 (u0.Data.length : Int)) rfl rfl ?_; intro a208 hF209; clear hF207
    refine gp hF209 83 3 [] ((decide ((u0.Data.length : Int) > 7)) && ((decide (u0.At < 6)) || ((!u0.Done) && (((w64 (u0.At - 6)).tmod 7) != 0)))) (.bool (decide ((u0.Data.length : Int) ≤ 7))) rfl rfl ?_; intro a210 hF211; clear hF209
    refine gp hF211 84 3 [] ((decide ((u0.Data.length : Int) > 7)) && ((decide (u0.At < 6)) || ((!u0.Done) && (((w64 (u0.At - 6)).tmod 7) != 0)))) (.bool (decide ((u0.Data.length : Int) ≤ 7))) rfl rfl ?_; intro a212 hF213; clear hF211
    have hF214 := hF213.atom ((decide ((u0.Data.length : Int) ≤ 7)) == true) (by kernel_rfl); clear hF213
    refine gp hF214 85 4 [3] (decide ((u0.Data.length : Int) ≤ 7)) (.pointer (some ⟨b6, 4, none⟩)) rfl rfl ?_; intro a215 hF216; clear hF214
    refine gd hF216 (.bool u0.Done) (m := 4) (cj := [3]) (bj := decide ((u0.Data.length : Int) ≤ 7)) rfl rfl (by kernel_rfl) rfl (by kernel_rfl) (by kernel_rfl) (by kernel_rfl) (fun hg => ld hF216 hM10 0 (g := [4, 3]) (b := b6) (off := 4) (cs := [.slice ao1 u0.Data.length cap2, .int .i64 u0.At, .int .i64 u0.Next, .int .i64 u0.Left, .bool u0.Done]) (ty := 53) rfl (by kernel_rfl) (by kernel_rfl) (by kernel_rfl) (by kernel_rfl) hg) ?_; intro a217 hF218; clear hF216
    refine gp hF218 87 4 [3] (decide ((u0.Data.length : Int) ≤ 7)) (.bool (!u0.Done)) rfl rfl ?_; intro a219 hF220; clear hF218
    refine gd hF220 (.bool ((decide ((u0.Data.length : Int) ≤ 7)) && (!u0.Done))) (m := 3) (cj := []) (bj := (decide ((u0.Data.length : Int) > 7)) && ((decide (u0.At < 6)) || ((!u0.Done) && (((w64 (u0.At - 6)).tmod 7) != 0)))) rfl rfl (by kernel_rfl) rfl (by kernel_rfl) (by kernel_rfl) (by kernel_rfl) (fun hg => pk_and hF220 (g := [3]) (m := 4) (b := decide ((u0.Data.length : Int) ≤ 7)) (v := !u0.Done) rfl (by kernel_rfl) (by kernel_rfl) (by kernel_rfl) hg) ?_; intro a221 hF222; clear hF220
    refine st hF222 (.bool (((decide ((u0.Data.length : Int) > 7)) && ((decide (u0.At < 6)) || ((!u0.Done) && (((w64 (u0.At - 6)).tmod 7) != 0)))) || ((decide ((u0.Data.length : Int) ≤ 7)) && (!u0.Done)))) (nog rfl _) rfl (by kernel_rfl) (pk_or hF222 (g := []) (m := 3) (b := (decide ((u0.Data.length : Int) > 7)) && ((decide (u0.At < 6)) || ((!u0.Done) && (((w64 (u0.At - 6)).tmod 7) != 0)))) (v := (decide ((u0.Data.length : Int) ≤ 7)) && (!u0.Done)) rfl (by kernel_rfl) (by kernel_rfl) (by kernel_rfl) rfl) ?_; intro a223 hF224; clear hF222
    refine s1 hF224 61 (.bool (((decide ((u0.Data.length : Int) > 7)) && ((decide (u0.At < 6)) || ((!u0.Done) && (((w64 (u0.At - 6)).tmod 7) != 0)))) || ((decide ((u0.Data.length : Int) ≤ 7)) && (!u0.Done)))) ?_; intro a225 hF226; clear hF224
    refine nlH (hQ163 _ _ ?_); clear hQ163 hQ163Q
    refine cd hF226 (t := ((decide ((u0.Data.length : Int) > 7)) && ((decide (u0.At < 6)) || ((!u0.Done) && (((w64 (u0.At - 6)).tmod 7) != 0)))) || ((decide ((u0.Data.length : Int) ≤ 7)) && (!u0.Done))) (by kernel_rfl) (fun hb227 => ?_) (fun hb227 => ?_)
    · -- yes
     have hp228 := hp161.1 hb227; clear hp161
     have hF229 : Fr 114 [] [] a225 := hF226.region (by kernel_rfl) (by kernel_rfl); clear hF226
     refine sqH ?_; intro hQ230Q hQ230
     refine s1 hF229 2 (.int .i64 4) ?_; intro a231 hF232; clear hF229
     refine nlH (hQ230 _ _ ?_); clear hQ230 hQ230Q
     refine wp_ret ?_
     refine ibr ?_
     refine thr ?_
     refine rt (fn := Try.f34) (v := .int .i64 4) hF232 (re1 hF232 (fn := Try.f34) rfl (by kernel_rfl)) ?_
     exact ⟨4, rfl, hp228, hM10.below⟩
    · -- no
     have hp233 := hp161.2 hb227; clear hp161
     have hF234 : Fr 114 [] [⟨1, [], .pointer (some ⟨b6, 0, none⟩)⟩, ⟨3, [], .int .i64 (u0.Data.length : Int)⟩] a225 := hF226.region (by kernel_rfl) (by kernel_rfl); clear hF226
     refine sqH ?_; intro hQ235Q hQ235
     refine s1 hF234 91 (.int .i64 (u0.Data.length : Int)) ?_; intro a236 hF237; clear hF234
     refine s1 hF237 92 (.bool (decide ((u0.Data.length : Int) > 7))) ?_; intro a238 hF239; clear hF237
     refine s1 hF239 93 (.bool (decide ((u0.Data.length : Int) > 7))) ?_; intro a240 hF241; clear hF239
     have hF242 := hF241.atom ((decide ((u0.Data.length : Int) > 7)) == true) (by kernel_rfl); clear hF241
     refine gp hF242 94 0 [] (decide ((u0.Data.length : Int) > 7)) (.pointer (some ⟨b6, 2, none⟩)) rfl rfl ?_; intro a243 hF244; clear hF242
     refine gd hF244 (.int .i64 u0.Next) (m := 0) (cj := []) (bj := decide ((u0.Data.length : Int) > 7)) rfl rfl (by kernel_rfl) rfl (by kernel_rfl) (by kernel_rfl) (by kernel_rfl) (fun hg => ld hF244 hM10 0 (g := [0]) (b := b6) (off := 2) (cs := [.slice ao1 u0.Data.length cap2, .int .i64 u0.At, .int .i64 u0.Next, .int .i64 u0.Left, .bool u0.Done]) (ty := 53) rfl (by kernel_rfl) (by kernel_rfl) (by kernel_rfl) (by kernel_rfl) hg) ?_; intro a245 hF246; clear hF244
     refine gp hF246 96 0 [] (decide ((u0.Data.length : Int) > 7)) (.pointer (some ⟨b6, 1, none⟩)) rfl rfl ?_; intro a247 hF248; clear hF246
     refine gd hF248 (.int .i64 u0.At) (m := 0) (cj := []) (bj := decide ((u0.Data.length : Int) > 7)) rfl rfl (by kernel_rfl) rfl (by kernel_rfl) (by kernel_rfl) (by kernel_rfl) (fun hg => ld hF248 hM10 0 (g := [0]) (b := b6) (off := 1) (cs := [.slice ao1 u0.Data.length cap2, .int .i64 u0.At, .int .i64 u0.Next, .int .i64 u0.Left, .bool u0.Done]) (ty := 53) rfl (by kernel_rfl) (by kernel_rfl) (by kernel_rfl) (by kernel_rfl) hg) ?_; intro a249 hF250; clear hF248
     refine gp hF250 98 0 [] (decide ((u0.Data.length : Int) > 7)) (.int .i64 (w64 (u0.At - 6))) rfl rfl ?_; intro a251 hF252; clear hF250
     refine gp hF252 99 0 [] (decide ((u0.Data.length : Int) > 7)) (.int .i64 (w64 ((w64 (u0.At - 6)) + 6))) rfl rfl ?_; intro a253 hF254; clear hF252
     refine gp hF254 100 0 [] (decide ((u0.Data.length : Int) > 7)) (.int .i64 (w64 ((w64 ((w64 (u0.At - 6)) + 6)).tdiv 7))) rfl rfl ?_; intro a255 hF256; clear hF254
     refine gp hF256 101 0 [] (decide ((u0.Data.length : Int) > 7)) (.int .i64 (w64 ((w64 ((w64 ((w64 (u0.At - 6)) + 6)).tdiv 7)) + 1))) rfl rfl ?_; intro a257 hF258; clear hF256
     refine gp hF258 102 0 [] (decide ((u0.Data.length : Int) > 7)) (.int .i64 ((w64 ((w64 ((w64 ((w64 (u0.At - 6)) + 6)).tdiv 7)) + 1)).tmod 16)) rfl rfl ?_; intro a259 hF260; clear hF258
     refine gp hF260 103 0 [] (decide ((u0.Data.length : Int) > 7)) (.bool (u0.Next != ((w64 ((w64 ((w64 ((w64 (u0.At - 6)) + 6)).tdiv 7)) + 1)).tmod 16))) rfl rfl ?_; intro a261 hF262; clear hF260
     refine st hF262 (.bool ((decide ((u0.Data.length : Int) > 7)) && (u0.Next != ((w64 ((w64 ((w64 ((w64 (u0.At - 6)) + 6)).tdiv 7)) + 1)).tmod 16)))) (nog rfl _) rfl (by kernel_rfl) (pk_and hF262 (g := []) (m := 0) (b := decide ((u0.Data.length : Int) > 7)) (v := u0.Next != ((w64 ((w64 ((w64 ((w64 (u0.At - 6)) + 6)).tdiv 7)) + 1)).tmod 16)) rfl (by kernel_rfl) (by kernel_rfl) (by kernel_rfl) rfl) ?_; intro a263 hF264; clear hF262
     refine s1 hF264 105 (.bool ((decide ((u0.Data.length : Int) > 7)) && (u0.Next != ((w64 ((w64 ((w64 ((w64 (u0.At - 6)) + 6)).tdiv 7)) + 1)).tmod 16)))) ?_; intro a265 hF266; clear hF264
     have hF267 := hF266.atom (((decide ((u0.Data.length : Int) > 7)) && (u0.Next != ((w64 ((w64 ((w64 ((w64 (u0.At - 6)) + 6)).tdiv 7)) + 1)).tmod 16))) == false) (by kernel_rfl); clear hF266
     refine gp hF267 106 1 [] ((decide ((u0.Data.length : Int) > 7)) && (u0.Next != ((w64 ((w64 ((w64 ((w64 (u0.At - 6)) + 6)).tdiv 7)) + 1)).tmod 16))) (.int .i64 (u0.Data.length : Int)) rfl rfl ?_; intro a268 hF269; clear hF267
     refine gp hF269 107 1 [] ((decide ((u0.Data.length : Int) > 7)) && (u0.Next != ((w64 ((w64 ((w64 ((w64 (u0.At - 6)) + 6)).tdiv 7)) + 1)).tmod 16))) (.bool (decide ((u0.Data.length : Int) ≤ 7))) rfl rfl ?_; intro a270 hF271; clear hF269
     refine gp hF271 108 1 [] ((decide ((u0.Data.length : Int) > 7)) && (u0.Next != ((w64 ((w64 ((w64 ((w64 (u0.At - 6)) + 6)).tdiv 7)) + 1)).tmod 16))) (.bool (decide ((u0.Data.length : Int) ≤ 7))) rfl rfl ?_; intro a272 hF273; clear hF271
     have hF274 := hF273.atom ((decide ((u0.Data.length : Int) ≤ 7)) == true) (by kernel_rfl); clear hF273
     refine gp hF274 109 2 [1] (decide ((u0.Data.length : Int) ≤ 7)) (.pointer (some ⟨b6, 2, none⟩)) rfl rfl ?_; intro a275 hF276; clear hF274
     refine gd hF276 (.int .i64 u0.Next) (m := 2) (cj := [1]) (bj := decide ((u0.Data.length : Int) ≤ 7)) rfl rfl (by kernel_rfl) rfl (by kernel_rfl) (by kernel_rfl) (by kernel_rfl) (fun hg => ld hF276 hM10 0 (g := [2, 1]) (b := b6) (off := 2) (cs := [.slice ao1 u0.Data.length cap2, .int .i64 u0.At, .int .i64 u0.Next, .int .i64 u0.Left, .bool u0.Done]) (ty := 53) rfl (by kernel_rfl) (by kernel_rfl) (by kernel_rfl) (by kernel_rfl) hg) ?_; intro a277 hF278; clear hF276
     refine gp hF278 111 2 [1] (decide ((u0.Data.length : Int) ≤ 7)) (.bool (u0.Next != 1)) rfl rfl ?_; intro a279 hF280; clear hF278
     refine gd hF280 (.bool ((decide ((u0.Data.length : Int) ≤ 7)) && (u0.Next != 1))) (m := 1) (cj := []) (bj := (decide ((u0.Data.length : Int) > 7)) && (u0.Next != ((w64 ((w64 ((w64 ((w64 (u0.At - 6)) + 6)).tdiv 7)) + 1)).tmod 16))) rfl rfl (by kernel_rfl) rfl (by kernel_rfl) (by kernel_rfl) (by kernel_rfl) (fun hg => pk_and hF280 (g := [1]) (m := 2) (b := decide ((u0.Data.length : Int) ≤ 7)) (v := u0.Next != 1) rfl (by kernel_rfl) (by kernel_rfl) (by kernel_rfl) hg) ?_; intro a281 hF282; clear hF280
     refine st hF282 (.bool (((decide ((u0.Data.length : Int) > 7)) && (u0.Next != ((w64 ((w64 ((w64 ((w64 (u0.At - 6)) + 6)).tdiv 7)) + 1)).tmod 16))) || ((decide ((u0.Data.length : Int) ≤ 7)) && (u0.Next != 1)))) (nog rfl _) rfl (by kernel_rfl) (pk_or hF282 (g := []) (m := 1) (b := (decide ((u0.Data.length : Int) > 7)) && (u0.Next != ((w64 ((w64 ((w64 ((w64 (u0.At - 6)) + 6)).tdiv 7)) + 1)).tmod 16))) (v := (decide ((u0.Data.length : Int) ≤ 7)) && (u0.Next != 1)) rfl (by kernel_rfl) (by kernel_rfl) (by kernel_rfl) rfl) ?_; intro a283 hF284; clear hF282
     refine s1 hF284 90 (.bool (((decide ((u0.Data.length : Int) > 7)) && (u0.Next != ((w64 ((w64 ((w64 ((w64 (u0.At - 6)) + 6)).tdiv 7)) + 1)).tmod 16))) || ((decide ((u0.Data.length : Int) ≤ 7)) && (u0.Next != 1)))) ?_; intro a285 hF286; clear hF284
     refine nlH (hQ235 _ _ ?_); clear hQ235 hQ235Q
     refine cd hF286 (t := ((decide ((u0.Data.length : Int) > 7)) && (u0.Next != ((w64 ((w64 ((w64 ((w64 (u0.At - 6)) + 6)).tdiv 7)) + 1)).tmod 16))) || ((decide ((u0.Data.length : Int) ≤ 7)) && (u0.Next != 1))) (by kernel_rfl) (fun hb287 => ?_) (fun hb287 => ?_)
     · -- yes
      have hp288 := hp233.1 hb287; clear hp233
      have hF289 : Fr 114 [] [] a285 := hF286.region (by kernel_rfl) (by kernel_rfl); clear hF286
      refine sqH ?_; intro hQ290Q hQ290
      refine s1 hF289 2 (.int .i64 4) ?_; intro a291 hF292; clear hF289
      refine nlH (hQ290 _ _ ?_); clear hQ290 hQ290Q
      refine wp_ret ?_
      refine ibr ?_
      refine thr ?_
      refine rt (fn := Try.f34) (v := .int .i64 4) hF292 (re1 hF292 (fn := Try.f34) rfl (by kernel_rfl)) ?_
      exact ⟨4, rfl, hp288, hM10.below⟩
     · -- no
      have hp293 := hp233.2 hb287; clear hp233
      refine wp_skip ?_
      refine ibn ?_
      refine thn ?_
      have hF294 : Fr 114 [] [] a285 := hF286.region (by kernel_rfl) (by kernel_rfl); clear hF286
      refine sqH ?_; intro hQ295Q hQ295
      refine s1 hF294 2 (.int .i64 0) ?_; intro a296 hF297; clear hF294
      refine nlH (hQ295 _ _ ?_); clear hQ295 hQ295Q
      refine wp_ret ?_
      refine rt (fn := Try.f34) (v := .int .i64 0) hF297 (re1 hF297 (fn := Try.f34) rfl (by kernel_rfl)) ?_
      exact ⟨0, rfl, hp293, hM10.below⟩
theorem pchecks_fun (u0 : Sender) (ao1 : Option Addr) (cap2 : Nat) (Z : Fz) (w : World) (hs3 : SlR (tyInt .u8) Z ao1 cap2 u0.Data) (hZ : Z.on w) : Calls Try.prog 34 #[.agg #[.slice ao1 u0.Data.length cap2, .int .i64 u0.At, .int .i64 u0.Next, .int .i64 u0.Left, .bool u0.Done]] w fun e w' => e = .returned (.int .i64 (pchecks u0)) ∧ Below w.heap.size w w' :=
  (pchecks_walk u0 ao1 cap2 Z w hs3 hZ (pchecks_ok u0)).mono fun _ _ ⟨r, he, hk, hb⟩ => ⟨by subst hk; exact he, hb⟩

set_option maxRecDepth 100000 in
theorem pcheckg_walk (u0 : Getter) (ao1 : Option Addr) (cap2 : Nat) (Z : Fz) (w : World) (hs3 : SlR (tyInt .u8) Z ao1 cap2 u0.Data) (hZ : Z.on w) {K : Int → Prop} (hp : pcheckg_vc u0 K) : Calls Try.prog 42 #[.agg #[.int .i64 u0.Want, .slice ao1 u0.Data.length cap2, .int .i64 u0.Next, .int .i64 u0.Block, .int .i64 u0.Left]] w fun e w' => ∃ r : Int, e = .returned (.int .i64 r) ∧ K r ∧ Below w.heap.size w w' := by
 refine enter0 Try.func42 rfl rfl (by kernel_rfl) ?_; intro a0 hF0; have hM0 := Mem.start w Z hZ; have hle0 := Fz.le.refl Z
 have hp4 := hp (hs3.small); clear hp
 refine sqH ?_; intro hQ5Q hQ5
 refine sn hF0 hM0 (fun b => .pointer (some ⟨b, 0, none⟩)) [.int .i64 u0.Want, .slice ao1 u0.Data.length cap2, .int .i64 u0.Next, .int .i64 u0.Block, .int .i64 u0.Left] 71 (nog rfl _) rfl (by kernel_rfl) (by kernel_rfl) ?_; intro b6 a7 wd9 hF8 hM10; clear hF0 hM0
 refine s1 hF8 2 (.int .i64 0) ?_; intro a11 hF12; clear hF8
 refine nlH (hQ5 _ _ ?_); clear hQ5 hQ5Q
 refine wp_seq ?_
 refine wp_block ?_
 refine sqH ?_; intro hQ13Q hQ13
 refine s1 hF12 4 (.pointer (some ⟨b6, 0, none⟩)) ?_; intro a14 hF15; clear hF12
 refine l1 hF15 hM10 5 0 0 (.int .i64 u0.Want) rfl rfl ?_; intro a16 hF17; clear hF15
 refine s1 hF17 6 (.bool (decide (u0.Want < 0))) ?_; intro a18 hF19; clear hF17
 refine s1 hF19 7 (.bool (decide (u0.Want < 0))) ?_; intro a20 hF21; clear hF19
 have hF22 := hF21.atom ((decide (u0.Want < 0)) == false) (by kernel_rfl); clear hF21
 refine gp hF22 8 0 [] (decide (u0.Want < 0)) (.pointer (some ⟨b6, 0, none⟩)) rfl rfl ?_; intro a23 hF24; clear hF22
 refine gd hF24 (.int .i64 u0.Want) (m := 0) (cj := []) (bj := decide (u0.Want < 0)) rfl rfl (by kernel_rfl) rfl (by kernel_rfl) (by kernel_rfl) (by kernel_rfl) (fun hg => ld hF24 hM10 0 (g := [0]) (b := b6) (off := 0) (cs := [.int .i64 u0.Want, .slice ao1 u0.Data.length cap2, .int .i64 u0.Next, .int .i64 u0.Block, .int .i64 u0.Left]) (ty := 71) rfl (by kernel_rfl) (by kernel_rfl) (by kernel_rfl) (by kernel_rfl) hg) ?_; intro a25 hF26; clear hF24
 refine gp hF26 10 0 [] (decide (u0.Want < 0)) (.bool (decide (u0.Want > 300))) rfl rfl ?_; intro a27 hF28; clear hF26
 refine st hF28 (.bool ((decide (u0.Want < 0)) || (decide (u0.Want > 300)))) (nog rfl _) rfl (by kernel_rfl) (pk_or hF28 (g := []) (m := 0) (b := decide (u0.Want < 0)) (v := decide (u0.Want > 300)) rfl (by kernel_rfl) (by kernel_rfl) (by kernel_rfl) rfl) ?_; intro a29 hF30; clear hF28
 refine s1 hF30 12 (.bool ((decide (u0.Want < 0)) || (decide (u0.Want > 300)))) ?_; intro a31 hF32; clear hF30
 have hF33 := hF32.atom (((decide (u0.Want < 0)) || (decide (u0.Want > 300))) == false) (by kernel_rfl); clear hF32
 refine gp hF33 13 1 [] ((decide (u0.Want < 0)) || (decide (u0.Want > 300))) (.pointer (some ⟨b6, 3, none⟩)) rfl rfl ?_; intro a34 hF35; clear hF33
 refine gd hF35 (.int .i64 u0.Block) (m := 1) (cj := []) (bj := (decide (u0.Want < 0)) || (decide (u0.Want > 300))) rfl rfl (by kernel_rfl) rfl (by kernel_rfl) (by kernel_rfl) (by kernel_rfl) (fun hg => ld hF35 hM10 0 (g := [1]) (b := b6) (off := 3) (cs := [.int .i64 u0.Want, .slice ao1 u0.Data.length cap2, .int .i64 u0.Next, .int .i64 u0.Block, .int .i64 u0.Left]) (ty := 71) rfl (by kernel_rfl) (by kernel_rfl) (by kernel_rfl) (by kernel_rfl) hg) ?_; intro a36 hF37; clear hF35
 refine gp hF37 15 1 [] ((decide (u0.Want < 0)) || (decide (u0.Want > 300))) (.bool (decide (u0.Block < 0))) rfl rfl ?_; intro a38 hF39; clear hF37
 refine st hF39 (.bool (((decide (u0.Want < 0)) || (decide (u0.Want > 300))) || (decide (u0.Block < 0)))) (nog rfl _) rfl (by kernel_rfl) (pk_or hF39 (g := []) (m := 1) (b := (decide (u0.Want < 0)) || (decide (u0.Want > 300))) (v := decide (u0.Block < 0)) rfl (by kernel_rfl) (by kernel_rfl) (by kernel_rfl) rfl) ?_; intro a40 hF41; clear hF39
 refine s1 hF41 17 (.bool (((decide (u0.Want < 0)) || (decide (u0.Want > 300))) || (decide (u0.Block < 0)))) ?_; intro a42 hF43; clear hF41
 have hF44 := hF43.atom ((((decide (u0.Want < 0)) || (decide (u0.Want > 300))) || (decide (u0.Block < 0))) == false) (by kernel_rfl); clear hF43
 refine gp hF44 18 2 [] (((decide (u0.Want < 0)) || (decide (u0.Want > 300))) || (decide (u0.Block < 0))) (.pointer (some ⟨b6, 3, none⟩)) rfl rfl ?_; intro a45 hF46; clear hF44
 refine gd hF46 (.int .i64 u0.Block) (m := 2) (cj := []) (bj := ((decide (u0.Want < 0)) || (decide (u0.Want > 300))) || (decide (u0.Block < 0))) rfl rfl (by kernel_rfl) rfl (by kernel_rfl) (by kernel_rfl) (by kernel_rfl) (fun hg => ld hF46 hM10 0 (g := [2]) (b := b6) (off := 3) (cs := [.int .i64 u0.Want, .slice ao1 u0.Data.length cap2, .int .i64 u0.Next, .int .i64 u0.Block, .int .i64 u0.Left]) (ty := 71) rfl (by kernel_rfl) (by kernel_rfl) (by kernel_rfl) (by kernel_rfl) hg) ?_; intro a47 hF48; clear hF46
 refine gp hF48 20 2 [] (((decide (u0.Want < 0)) || (decide (u0.Want > 300))) || (decide (u0.Block < 0))) (.bool (decide (u0.Block > 255))) rfl rfl ?_; intro a49 hF50; clear hF48
 refine st hF50 (.bool ((((decide (u0.Want < 0)) || (decide (u0.Want > 300))) || (decide (u0.Block < 0))) || (decide (u0.Block > 255)))) (nog rfl _) rfl (by kernel_rfl) (pk_or hF50 (g := []) (m := 2) (b := ((decide (u0.Want < 0)) || (decide (u0.Want > 300))) || (decide (u0.Block < 0))) (v := decide (u0.Block > 255)) rfl (by kernel_rfl) (by kernel_rfl) (by kernel_rfl) rfl) ?_; intro a51 hF52; clear hF50
 refine s1 hF52 22 (.bool ((((decide (u0.Want < 0)) || (decide (u0.Want > 300))) || (decide (u0.Block < 0))) || (decide (u0.Block > 255)))) ?_; intro a53 hF54; clear hF52
 have hF55 := hF54.atom (((((decide (u0.Want < 0)) || (decide (u0.Want > 300))) || (decide (u0.Block < 0))) || (decide (u0.Block > 255))) == false) (by kernel_rfl); clear hF54
 refine gp hF55 23 3 [] ((((decide (u0.Want < 0)) || (decide (u0.Want > 300))) || (decide (u0.Block < 0))) || (decide (u0.Block > 255))) (.pointer (some ⟨b6, 4, none⟩)) rfl rfl ?_; intro a56 hF57; clear hF55
 refine gd hF57 (.int .i64 u0.Left) (m := 3) (cj := []) (bj := (((decide (u0.Want < 0)) || (decide (u0.Want > 300))) || (decide (u0.Block < 0))) || (decide (u0.Block > 255))) rfl rfl (by kernel_rfl) rfl (by kernel_rfl) (by kernel_rfl) (by kernel_rfl) (fun hg => ld hF57 hM10 0 (g := [3]) (b := b6) (off := 4) (cs := [.int .i64 u0.Want, .slice ao1 u0.Data.length cap2, .int .i64 u0.Next, .int .i64 u0.Block, .int .i64 u0.Left]) (ty := 71) rfl (by kernel_rfl) (by kernel_rfl) (by kernel_rfl) (by kernel_rfl) hg) ?_; intro a58 hF59; clear hF57
 refine gp hF59 25 3 [] ((((decide (u0.Want < 0)) || (decide (u0.Want > 300))) || (decide (u0.Block < 0))) || (decide (u0.Block > 255))) (.bool (decide (u0.Left < 0))) rfl rfl ?_; intro a60 hF61; clear hF59
 refine st hF61 (.bool (((((decide (u0.Want < 0)) || (decide (u0.Want > 300))) || (decide (u0.Block < 0))) || (decide (u0.Block > 255))) || (decide (u0.Left < 0)))) (nog rfl _) rfl (by kernel_rfl) (pk_or hF61 (g := []) (m := 3) (b := (((decide (u0.Want < 0)) || (decide (u0.Want > 300))) || (decide (u0.Block < 0))) || (decide (u0.Block > 255))) (v := decide (u0.Left < 0)) rfl (by kernel_rfl) (by kernel_rfl) (by kernel_rfl) rfl) ?_; intro a62 hF63; clear hF61
 refine s1 hF63 27 (.bool (((((decide (u0.Want < 0)) || (decide (u0.Want > 300))) || (decide (u0.Block < 0))) || (decide (u0.Block > 255))) || (decide (u0.Left < 0)))) ?_; intro a64 hF65; clear hF63
 have hF66 := hF65.atom ((((((decide (u0.Want < 0)) || (decide (u0.Want > 300))) || (decide (u0.Block < 0))) || (decide (u0.Block > 255))) || (decide (u0.Left < 0))) == false) (by kernel_rfl); clear hF65
 refine gp hF66 28 4 [] (((((decide (u0.Want < 0)) || (decide (u0.Want > 300))) || (decide (u0.Block < 0))) || (decide (u0.Block > 255))) || (decide (u0.Left < 0))) (.pointer (some ⟨b6, 4, none⟩)) rfl rfl ?_; intro a67 hF68; clear hF66
 refine gd hF68 (.int .i64 u0.Left) (m := 4) (cj := []) (bj := ((((decide (u0.Want < 0)) || (decide (u0.Want > 300))) || (decide (u0.Block < 0))) || (decide (u0.Block > 255))) || (decide (u0.Left < 0))) rfl rfl (by kernel_rfl) rfl (by kernel_rfl) (by kernel_rfl) (by kernel_rfl) (fun hg => ld hF68 hM10 0 (g := [4]) (b := b6) (off := 4) (cs := [.int .i64 u0.Want, .slice ao1 u0.Data.length cap2, .int .i64 u0.Next, .int .i64 u0.Block, .int .i64 u0.Left]) (ty := 71) rfl (by kernel_rfl) (by kernel_rfl) (by kernel_rfl) (by kernel_rfl) hg) ?_; intro a69 hF70; clear hF68
 refine gp hF70 30 4 [] (((((decide (u0.Want < 0)) || (decide (u0.Want > 300))) || (decide (u0.Block < 0))) || (decide (u0.Block > 255))) || (decide (u0.Left < 0))) (.pointer (some ⟨b6, 3, none⟩)) rfl rfl ?_; intro a71 hF72; clear hF70
 refine gd hF72 (.int .i64 u0.Block) (m := 4) (cj := []) (bj := ((((decide (u0.Want < 0)) || (decide (u0.Want > 300))) || (decide (u0.Block < 0))) || (decide (u0.Block > 255))) || (decide (u0.Left < 0))) rfl rfl (by kernel_rfl) rfl (by kernel_rfl) (by kernel_rfl) (by kernel_rfl) (fun hg => ld hF72 hM10 0 (g := [4]) (b := b6) (off := 3) (cs := [.int .i64 u0.Want, .slice ao1 u0.Data.length cap2, .int .i64 u0.Next, .int .i64 u0.Block, .int .i64 u0.Left]) (ty := 71) rfl (by kernel_rfl) (by kernel_rfl) (by kernel_rfl) (by kernel_rfl) hg) ?_; intro a73 hF74; clear hF72
 refine gp hF74 32 4 [] (((((decide (u0.Want < 0)) || (decide (u0.Want > 300))) || (decide (u0.Block < 0))) || (decide (u0.Block > 255))) || (decide (u0.Left < 0))) (.bool (decide (u0.Left > u0.Block))) rfl rfl ?_; intro a75 hF76; clear hF74
 refine st hF76 (.bool ((((((decide (u0.Want < 0)) || (decide (u0.Want > 300))) || (decide (u0.Block < 0))) || (decide (u0.Block > 255))) || (decide (u0.Left < 0))) || (decide (u0.Left > u0.Block)))) (nog rfl _) rfl (by kernel_rfl) (pk_or hF76 (g := []) (m := 4) (b := ((((decide (u0.Want < 0)) || (decide (u0.Want > 300))) || (decide (u0.Block < 0))) || (decide (u0.Block > 255))) || (decide (u0.Left < 0))) (v := decide (u0.Left > u0.Block)) rfl (by kernel_rfl) (by kernel_rfl) (by kernel_rfl) rfl) ?_; intro a77 hF78; clear hF76
 refine s1 hF78 34 (.bool ((((((decide (u0.Want < 0)) || (decide (u0.Want > 300))) || (decide (u0.Block < 0))) || (decide (u0.Block > 255))) || (decide (u0.Left < 0))) || (decide (u0.Left > u0.Block)))) ?_; intro a79 hF80; clear hF78
 have hF81 := hF80.atom (((((((decide (u0.Want < 0)) || (decide (u0.Want > 300))) || (decide (u0.Block < 0))) || (decide (u0.Block > 255))) || (decide (u0.Left < 0))) || (decide (u0.Left > u0.Block))) == false) (by kernel_rfl); clear hF80
 refine gp hF81 35 5 [] ((((((decide (u0.Want < 0)) || (decide (u0.Want > 300))) || (decide (u0.Block < 0))) || (decide (u0.Block > 255))) || (decide (u0.Left < 0))) || (decide (u0.Left > u0.Block))) (.pointer (some ⟨b6, 2, none⟩)) rfl rfl ?_; intro a82 hF83; clear hF81
 refine gd hF83 (.int .i64 u0.Next) (m := 5) (cj := []) (bj := (((((decide (u0.Want < 0)) || (decide (u0.Want > 300))) || (decide (u0.Block < 0))) || (decide (u0.Block > 255))) || (decide (u0.Left < 0))) || (decide (u0.Left > u0.Block))) rfl rfl (by kernel_rfl) rfl (by kernel_rfl) (by kernel_rfl) (by kernel_rfl) (fun hg => ld hF83 hM10 0 (g := [5]) (b := b6) (off := 2) (cs := [.int .i64 u0.Want, .slice ao1 u0.Data.length cap2, .int .i64 u0.Next, .int .i64 u0.Block, .int .i64 u0.Left]) (ty := 71) rfl (by kernel_rfl) (by kernel_rfl) (by kernel_rfl) (by kernel_rfl) hg) ?_; intro a84 hF85; clear hF83
 refine gp hF85 37 5 [] ((((((decide (u0.Want < 0)) || (decide (u0.Want > 300))) || (decide (u0.Block < 0))) || (decide (u0.Block > 255))) || (decide (u0.Left < 0))) || (decide (u0.Left > u0.Block))) (.bool (decide (u0.Next < 0))) rfl rfl ?_; intro a86 hF87; clear hF85
 refine st hF87 (.bool (((((((decide (u0.Want < 0)) || (decide (u0.Want > 300))) || (decide (u0.Block < 0))) || (decide (u0.Block > 255))) || (decide (u0.Left < 0))) || (decide (u0.Left > u0.Block))) || (decide (u0.Next < 0)))) (nog rfl _) rfl (by kernel_rfl) (pk_or hF87 (g := []) (m := 5) (b := (((((decide (u0.Want < 0)) || (decide (u0.Want > 300))) || (decide (u0.Block < 0))) || (decide (u0.Block > 255))) || (decide (u0.Left < 0))) || (decide (u0.Left > u0.Block))) (v := decide (u0.Next < 0)) rfl (by kernel_rfl) (by kernel_rfl) (by kernel_rfl) rfl) ?_; intro a88 hF89; clear hF87
 refine s1 hF89 39 (.bool (((((((decide (u0.Want < 0)) || (decide (u0.Want > 300))) || (decide (u0.Block < 0))) || (decide (u0.Block > 255))) || (decide (u0.Left < 0))) || (decide (u0.Left > u0.Block))) || (decide (u0.Next < 0)))) ?_; intro a90 hF91; clear hF89
 have hF92 := hF91.atom ((((((((decide (u0.Want < 0)) || (decide (u0.Want > 300))) || (decide (u0.Block < 0))) || (decide (u0.Block > 255))) || (decide (u0.Left < 0))) || (decide (u0.Left > u0.Block))) || (decide (u0.Next < 0))) == false) (by kernel_rfl); clear hF91
 refine gp hF92 40 6 [] (((((((decide (u0.Want < 0)) || (decide (u0.Want > 300))) || (decide (u0.Block < 0))) || (decide (u0.Block > 255))) || (decide (u0.Left < 0))) || (decide (u0.Left > u0.Block))) || (decide (u0.Next < 0))) (.pointer (some ⟨b6, 2, none⟩)) rfl rfl ?_; intro a93 hF94; clear hF92
 refine gd hF94 (.int .i64 u0.Next) (m := 6) (cj := []) (bj := ((((((decide (u0.Want < 0)) || (decide (u0.Want > 300))) || (decide (u0.Block < 0))) || (decide (u0.Block > 255))) || (decide (u0.Left < 0))) || (decide (u0.Left > u0.Block))) || (decide (u0.Next < 0))) rfl rfl (by kernel_rfl) rfl (by kernel_rfl) (by kernel_rfl) (by kernel_rfl) (fun hg => ld hF94 hM10 0 (g := [6]) (b := b6) (off := 2) (cs := [.int .i64 u0.Want, .slice ao1 u0.Data.length cap2, .int .i64 u0.Next, .int .i64 u0.Block, .int .i64 u0.Left]) (ty := 71) rfl (by kernel_rfl) (by kernel_rfl) (by kernel_rfl) (by kernel_rfl) hg) ?_; intro a95 hF96; clear hF94
 refine gp hF96 42 6 [] (((((((decide (u0.Want < 0)) || (decide (u0.Want > 300))) || (decide (u0.Block < 0))) || (decide (u0.Block > 255))) || (decide (u0.Left < 0))) || (decide (u0.Left > u0.Block))) || (decide (u0.Next < 0))) (.bool (decide (u0.Next > 15))) rfl rfl ?_; intro a97 hF98; clear hF96
 refine st hF98 (.bool ((((((((decide (u0.Want < 0)) || (decide (u0.Want > 300))) || (decide (u0.Block < 0))) || (decide (u0.Block > 255))) || (decide (u0.Left < 0))) || (decide (u0.Left > u0.Block))) || (decide (u0.Next < 0))) || (decide (u0.Next > 15)))) (nog rfl _) rfl (by kernel_rfl) (pk_or hF98 (g := []) (m := 6) (b := ((((((decide (u0.Want < 0)) || (decide (u0.Want > 300))) || (decide (u0.Block < 0))) || (decide (u0.Block > 255))) || (decide (u0.Left < 0))) || (decide (u0.Left > u0.Block))) || (decide (u0.Next < 0))) (v := decide (u0.Next > 15)) rfl (by kernel_rfl) (by kernel_rfl) (by kernel_rfl) rfl) ?_; intro a99 hF100; clear hF98
 refine s1 hF100 3 (.bool ((((((((decide (u0.Want < 0)) || (decide (u0.Want > 300))) || (decide (u0.Block < 0))) || (decide (u0.Block > 255))) || (decide (u0.Left < 0))) || (decide (u0.Left > u0.Block))) || (decide (u0.Next < 0))) || (decide (u0.Next > 15)))) ?_; intro a101 hF102; clear hF100
 refine nlH (hQ13 _ _ ?_); clear hQ13 hQ13Q
 refine cd hF102 (t := (((((((decide (u0.Want < 0)) || (decide (u0.Want > 300))) || (decide (u0.Block < 0))) || (decide (u0.Block > 255))) || (decide (u0.Left < 0))) || (decide (u0.Left > u0.Block))) || (decide (u0.Next < 0))) || (decide (u0.Next > 15))) (by kernel_rfl) (fun hb103 => ?_) (fun hb103 => ?_)
 · -- yes
  have hp104 := hp4.1 hb103; clear hp4
  have hF105 : Fr 117 [] [] a101 := hF102.region (by kernel_rfl) (by kernel_rfl); clear hF102
  refine sqH ?_; intro hQ106Q hQ106
  refine s1 hF105 2 (.int .i64 3) ?_; intro a107 hF108; clear hF105
  refine nlH (hQ106 _ _ ?_); clear hQ106 hQ106Q
  refine wp_ret ?_
  refine ibr ?_
  refine thr ?_
  refine rt (fn := Try.f42) (v := .int .i64 3) hF108 (re1 hF108 (fn := Try.f42) rfl (by kernel_rfl)) ?_
  exact ⟨3, rfl, hp104, hM10.below⟩
 · -- no
  have hp109 := hp4.2 hb103; clear hp4
  have hF110 : Fr 117 [] [⟨1, [], .pointer (some ⟨b6, 0, none⟩)⟩] a101 := hF102.region (by kernel_rfl) (by kernel_rfl); clear hF102
  refine sqH ?_; intro hQ111Q hQ111
  refine s1 hF110 45 (.pointer (some ⟨b6, 0, none⟩)) ?_; intro a112 hF113; clear hF110
  refine l1 hF113 hM10 46 0 0 (.int .i64 u0.Want) rfl rfl ?_; intro a114 hF115; clear hF113
  refine s1 hF115 47 (.bool (u0.Want == 0)) ?_; intro a116 hF117; clear hF115
  refine s1 hF117 48 (.bool (u0.Want == 0)) ?_; intro a118 hF119; clear hF117
  have hF120 := hF119.atom ((u0.Want == 0) == true) (by kernel_rfl); clear hF119
  refine gp hF120 49 0 [] (u0.Want == 0) (.pointer (some ⟨b6, 1, none⟩)) rfl rfl ?_; intro a121 hF122; clear hF120
  refine gd hF122 (.slice ao1 u0.Data.length cap2) (m := 0) (cj := []) (bj := u0.Want == 0) rfl rfl (by kernel_rfl) rfl (by kernel_rfl) (by kernel_rfl) (by kernel_rfl) (fun hg => ld hF122 hM10 0 (g := [0]) (b := b6) (off := 1) (cs := [.int .i64 u0.Want, .slice ao1 u0.Data.length cap2, .int .i64 u0.Next, .int .i64 u0.Block, .int .i64 u0.Left]) (ty := 71) rfl (by kernel_rfl) (by kernel_rfl) (by kernel_rfl) (by kernel_rfl) hg) ?_; intro a123 hF124; clear hF122
  refine gp hF124 51 0 [] (u0.Want == 0) (.int .i64 (u0.Data.length : Int)) rfl rfl ?_; intro a125 hF126; clear hF124
  refine gp hF126 52 0 [] (u0.Want == 0) (.bool (decide ((u0.Data.length : Int) > 0))) rfl rfl ?_; intro a127 hF128; clear hF126
  refine gp hF128 53 0 [] (u0.Want == 0) (.bool (decide ((u0.Data.length : Int) > 0))) rfl rfl ?_; intro a129 hF130; clear hF128
  have hF131 := hF130.atom ((decide ((u0.Data.length : Int) > 0)) == false) (by kernel_rfl); clear hF130
  refine gp hF131 54 1 [0] (decide ((u0.Data.length : Int) > 0)) (.pointer (some ⟨b6, 2, none⟩)) rfl rfl ?_; intro a132 hF133; clear hF131
  refine gd hF133 (.int .i64 u0.Next) (m := 1) (cj := [0]) (bj := decide ((u0.Data.length : Int) > 0)) rfl rfl (by kernel_rfl) rfl (by kernel_rfl) (by kernel_rfl) (by kernel_rfl) (fun hg => ld hF133 hM10 0 (g := [1, 0]) (b := b6) (off := 2) (cs := [.int .i64 u0.Want, .slice ao1 u0.Data.length cap2, .int .i64 u0.Next, .int .i64 u0.Block, .int .i64 u0.Left]) (ty := 71) rfl (by kernel_rfl) (by kernel_rfl) (by kernel_rfl) (by kernel_rfl) hg) ?_; intro a134 hF135; clear hF133
  refine gp hF135 56 1 [0] (decide ((u0.Data.length : Int) > 0)) (.bool (u0.Next != 0)) rfl rfl ?_; intro a136 hF137; clear hF135
  refine gd hF137 (.bool ((decide ((u0.Data.length : Int) > 0)) || (u0.Next != 0))) (m := 0) (cj := []) (bj := u0.Want == 0) rfl rfl (by kernel_rfl) rfl (by kernel_rfl) (by kernel_rfl) (by kernel_rfl) (fun hg => pk_or hF137 (g := [0]) (m := 1) (b := decide ((u0.Data.length : Int) > 0)) (v := u0.Next != 0) rfl (by kernel_rfl) (by kernel_rfl) (by kernel_rfl) hg) ?_; intro a138 hF139; clear hF137
  refine gp hF139 58 0 [] (u0.Want == 0) (.bool ((decide ((u0.Data.length : Int) > 0)) || (u0.Next != 0))) rfl rfl ?_; intro a140 hF141; clear hF139
  have hF142 := hF141.atom (((decide ((u0.Data.length : Int) > 0)) || (u0.Next != 0)) == false) (by kernel_rfl); clear hF141
  refine gp hF142 59 2 [0] ((decide ((u0.Data.length : Int) > 0)) || (u0.Next != 0)) (.pointer (some ⟨b6, 4, none⟩)) rfl rfl ?_; intro a143 hF144; clear hF142
  refine gd hF144 (.int .i64 u0.Left) (m := 2) (cj := [0]) (bj := (decide ((u0.Data.length : Int) > 0)) || (u0.Next != 0)) rfl rfl (by kernel_rfl) rfl (by kernel_rfl) (by kernel_rfl) (by kernel_rfl) (fun hg => ld hF144 hM10 0 (g := [2, 0]) (b := b6) (off := 4) (cs := [.int .i64 u0.Want, .slice ao1 u0.Data.length cap2, .int .i64 u0.Next, .int .i64 u0.Block, .int .i64 u0.Left]) (ty := 71) rfl (by kernel_rfl) (by kernel_rfl) (by kernel_rfl) (by kernel_rfl) hg) ?_; intro a145 hF146; clear hF144
  refine gp hF146 61 2 [0] ((decide ((u0.Data.length : Int) > 0)) || (u0.Next != 0)) (.bool (u0.Left != 0)) rfl rfl ?_; intro a147 hF148; clear hF146
  refine gd hF148 (.bool (((decide ((u0.Data.length : Int) > 0)) || (u0.Next != 0)) || (u0.Left != 0))) (m := 0) (cj := []) (bj := u0.Want == 0) rfl rfl (by kernel_rfl) rfl (by kernel_rfl) (by kernel_rfl) (by kernel_rfl) (fun hg => pk_or hF148 (g := [0]) (m := 2) (b := (decide ((u0.Data.length : Int) > 0)) || (u0.Next != 0)) (v := u0.Left != 0) rfl (by kernel_rfl) (by kernel_rfl) (by kernel_rfl) hg) ?_; intro a149 hF150; clear hF148
  refine st hF150 (.bool ((u0.Want == 0) && (((decide ((u0.Data.length : Int) > 0)) || (u0.Next != 0)) || (u0.Left != 0)))) (nog rfl _) rfl (by kernel_rfl) (pk_and hF150 (g := []) (m := 0) (b := u0.Want == 0) (v := ((decide ((u0.Data.length : Int) > 0)) || (u0.Next != 0)) || (u0.Left != 0)) rfl (by kernel_rfl) (by kernel_rfl) (by kernel_rfl) rfl) ?_; intro a151 hF152; clear hF150
  refine s1 hF152 44 (.bool ((u0.Want == 0) && (((decide ((u0.Data.length : Int) > 0)) || (u0.Next != 0)) || (u0.Left != 0)))) ?_; intro a153 hF154; clear hF152
  refine nlH (hQ111 _ _ ?_); clear hQ111 hQ111Q
  refine cd hF154 (t := (u0.Want == 0) && (((decide ((u0.Data.length : Int) > 0)) || (u0.Next != 0)) || (u0.Left != 0))) (by kernel_rfl) (fun hb155 => ?_) (fun hb155 => ?_)
  · -- yes
   have hp156 := hp109.1 hb155; clear hp109
   have hF157 : Fr 117 [] [] a153 := hF154.region (by kernel_rfl) (by kernel_rfl); clear hF154
   refine sqH ?_; intro hQ158Q hQ158
   refine s1 hF157 2 (.int .i64 4) ?_; intro a159 hF160; clear hF157
   refine nlH (hQ158 _ _ ?_); clear hQ158 hQ158Q
   refine wp_ret ?_
   refine ibr ?_
   refine thr ?_
   refine rt (fn := Try.f42) (v := .int .i64 4) hF160 (re1 hF160 (fn := Try.f42) rfl (by kernel_rfl)) ?_
   exact ⟨4, rfl, hp156, hM10.below⟩
  · -- no
   have hp161 := hp109.2 hb155; clear hp109
   have hF162 : Fr 117 [] [⟨1, [], .pointer (some ⟨b6, 0, none⟩)⟩] a153 := hF154.region (by kernel_rfl) (by kernel_rfl); clear hF154
   refine sqH ?_; intro hQ163Q hQ163
   refine s1 hF162 65 (.pointer (some ⟨b6, 0, none⟩)) ?_; intro a164 hF165; clear hF162
   refine l1 hF165 hM10 66 0 0 (.int .i64 u0.Want) rfl rfl ?_; intro a166 hF167; clear hF165
   refine s1 hF167 67 (.bool (decide (u0.Want > 0))) ?_; intro a168 hF169; clear hF167
   refine s1 hF169 68 (.bool (decide (u0.Want > 0))) ?_; intro a170 hF171; clear hF169
   have hF172 := hF171.atom ((decide (u0.Want > 0)) == true) (by kernel_rfl); clear hF171
   refine gp hF172 69 0 [] (decide (u0.Want > 0)) (.pointer (some ⟨b6, 0, none⟩)) rfl rfl ?_; intro a173 hF174; clear hF172
   refine gd hF174 (.int .i64 u0.Want) (m := 0) (cj := []) (bj := decide (u0.Want > 0)) rfl rfl (by kernel_rfl) rfl (by kernel_rfl) (by kernel_rfl) (by kernel_rfl) (fun hg => ld hF174 hM10 0 (g := [0]) (b := b6) (off := 0) (cs := [.int .i64 u0.Want, .slice ao1 u0.Data.length cap2, .int .i64 u0.Next, .int .i64 u0.Block, .int .i64 u0.Left]) (ty := 71) rfl (by kernel_rfl) (by kernel_rfl) (by kernel_rfl) (by kernel_rfl) hg) ?_; intro a175 hF176; clear hF174
   refine gp hF176 71 0 [] (decide (u0.Want > 0)) (.bool (decide (u0.Want < 8))) rfl rfl ?_; intro a177 hF178; clear hF176
   refine gp hF178 72 0 [] (decide (u0.Want > 0)) (.bool (decide (u0.Want < 8))) rfl rfl ?_; intro a179 hF180; clear hF178
   have hF181 := hF180.atom ((decide (u0.Want < 8)) == false) (by kernel_rfl); clear hF180
   refine gp hF181 73 1 [0] (decide (u0.Want < 8)) (.pointer (some ⟨b6, 1, none⟩)) rfl rfl ?_; intro a182 hF183; clear hF181
   refine gd hF183 (.slice ao1 u0.Data.length cap2) (m := 1) (cj := [0]) (bj := decide (u0.Want < 8)) rfl rfl (by kernel_rfl) rfl (by kernel_rfl) (by kernel_rfl) (by kernel_rfl) (fun hg => ld hF183 hM10 0 (g := [1, 0]) (b := b6) (off := 1) (cs := [.int .i64 u0.Want, .slice ao1 u0.Data.length cap2, .int .i64 u0.Next, .int .i64 u0.Block, .int .i64 u0.Left]) (ty := 71) rfl (by kernel_rfl) (by kernel_rfl) (by kernel_rfl) (by kernel_rfl) hg) ?_; intro a184 hF185; clear hF183
   refine gp hF185 75 1 [0] (decide (u0.Want < 8)) (.int .i64 (u0.Data.length : Int)) rfl rfl ?_; intro a186 hF187; clear hF185
   refine gp hF187 76 1 [0] (decide (u0.Want < 8)) (.bool (decide ((u0.Data.length : Int) < 6))) rfl rfl ?_; intro a188 hF189; clear hF187
   refine gd hF189 (.bool ((decide (u0.Want < 8)) || (decide ((u0.Data.length : Int) < 6)))) (m := 0) (cj := []) (bj := decide (u0.Want > 0)) rfl rfl (by kernel_rfl) rfl (by kernel_rfl) (by kernel_rfl) (by kernel_rfl) (fun hg => pk_or hF189 (g := [0]) (m := 1) (b := decide (u0.Want < 8)) (v := decide ((u0.Data.length : Int) < 6)) rfl (by kernel_rfl) (by kernel_rfl) (by kernel_rfl) hg) ?_; intro a190 hF191; clear hF189
   refine gp hF191 78 0 [] (decide (u0.Want > 0)) (.bool ((decide (u0.Want < 8)) || (decide ((u0.Data.length : Int) < 6)))) rfl rfl ?_; intro a192 hF193; clear hF191
   have hF194 := hF193.atom (((decide (u0.Want < 8)) || (decide ((u0.Data.length : Int) < 6))) == false) (by kernel_rfl); clear hF193
   refine gp hF194 79 2 [0] ((decide (u0.Want < 8)) || (decide ((u0.Data.length : Int) < 6))) (.pointer (some ⟨b6, 1, none⟩)) rfl rfl ?_; intro a195 hF196; clear hF194
   refine gd hF196 (.slice ao1 u0.Data.length cap2) (m := 2) (cj := [0]) (bj := (decide (u0.Want < 8)) || (decide ((u0.Data.length : Int) < 6))) rfl rfl (by kernel_rfl) rfl (by kernel_rfl) (by kernel_rfl) (by kernel_rfl) (fun hg => ld hF196 hM10 0 (g := [2, 0]) (b := b6) (off := 1) (cs := [.int .i64 u0.Want, .slice ao1 u0.Data.length cap2, .int .i64 u0.Next, .int .i64 u0.Block, .int .i64 u0.Left]) (ty := 71) rfl (by kernel_rfl) (by kernel_rfl) (by kernel_rfl) (by kernel_rfl) hg) ?_; intro a197 hF198; clear hF196
   refine gp hF198 81 2 [0] ((decide (u0.Want < 8)) || (decide ((u0.Data.length : Int) < 6))) (.int .i64 (u0.Data.length : Int)) rfl rfl ?_; intro a199 hF200; clear hF198
   refine gp hF200 82 2 [0] ((decide (u0.Want < 8)) || (decide ((u0.Data.length : Int) < 6))) (.pointer (some ⟨b6, 0, none⟩)) rfl rfl ?_; intro a201 hF202; clear hF200
   refine gd hF202 (.int .i64 u0.Want) (m := 2) (cj := [0]) (bj := (decide (u0.Want < 8)) || (decide ((u0.Data.length : Int) < 6))) rfl rfl (by kernel_rfl) rfl (by kernel_rfl) (by kernel_rfl) (by kernel_rfl) (fun hg => ld hF202 hM10 0 (g := [2, 0]) (b := b6) (off := 0) (cs := [.int .i64 u0.Want, .slice ao1 u0.Data.length cap2, .int .i64 u0.Next, .int .i64 u0.Block, .int .i64 u0.Left]) (ty := 71) rfl (by kernel_rfl) (by kernel_rfl) (by kernel_rfl) (by kernel_rfl) hg) ?_; intro a203 hF204; clear hF202
   refine gp hF204 84 2 [0] ((decide (u0.Want < 8)) || (decide ((u0.Data.length : Int) < 6))) (.bool (decide ((u0.Data.length : Int) ≥ u0.Want))) rfl rfl ?_; intro a205 hF206; clear hF204
   refine gd hF206 (.bool (((decide (u0.Want < 8)) || (decide ((u0.Data.length : Int) < 6))) || (decide ((u0.Data.length : Int) ≥ u0.Want)))) (m := 0) (cj := []) (bj := decide (u0.Want > 0)) rfl rfl (by kernel_rfl) rfl (by kernel_rfl) (by kernel_rfl) (by kernel_rfl) (fun hg => pk_or hF206 (g := [0]) (m := 2) (b := (decide (u0.Want < 8)) || (decide ((u0.Data.length : Int) < 6))) (v := decide ((u0.Data.length : Int) ≥ u0.Want)) rfl (by kernel_rfl) (by kernel_rfl) (by kernel_rfl) hg) ?_; intro a207 hF208; clear hF206
   refine gp hF208 86 0 [] (decide (u0.Want > 0)) (.bool (((decide (u0.Want < 8)) || (decide ((u0.Data.length : Int) < 6))) || (decide ((u0.Data.length : Int) ≥ u0.Want)))) rfl rfl ?_; intro a209 hF210; clear hF208
   have hF211 := hF210.atom ((((decide (u0.Want < 8)) || (decide ((u0.Data.length : Int) < 6))) || (decide ((u0.Data.length : Int) ≥ u0.Want))) == false) (by kernel_rfl); clear hF210
   refine gp hF211 87 3 [0] (((decide (u0.Want < 8)) || (decide ((u0.Data.length : Int) < 6))) || (decide ((u0.Data.length : Int) ≥ u0.Want))) (.pointer (some ⟨b6, 1, none⟩)) rfl rfl ?_; intro a212 hF213; clear hF211
   refine gd hF213 (.slice ao1 u0.Data.length cap2) (m := 3) (cj := [0]) (bj := ((decide (u0.Want < 8)) || (decide ((u0.Data.length : Int) < 6))) || (decide ((u0.Data.length : Int) ≥ u0.Want))) rfl rfl (by kernel_rfl) rfl (by kernel_rfl) (by kernel_rfl) (by kernel_rfl) (fun hg => ld hF213 hM10 0 (g := [3, 0]) (b := b6) (off := 1) (cs := [.int .i64 u0.Want, .slice ao1 u0.Data.length cap2, .int .i64 u0.Next, .int .i64 u0.Block, .int .i64 u0.Left]) (ty := 71) rfl (by kernel_rfl) (by kernel_rfl) (by kernel_rfl) (by kernel_rfl) hg) ?_; intro a214 hF215; clear hF213
   refine gp hF215 89 3 [0] (((decide (u0.Want < 8)) || (decide ((u0.Data.length : Int) < 6))) || (decide ((u0.Data.length : Int) ≥ u0.Want))) (.int .i64 (u0.Data.length : Int)) rfl rfl ?_; intro a216 hF217; clear hF215
   refine gp hF217 90 3 [0] (((decide (u0.Want < 8)) || (decide ((u0.Data.length : Int) < 6))) || (decide ((u0.Data.length : Int) ≥ u0.Want))) (.int .i64 (w64 ((u0.Data.length : Int) - 6))) rfl rfl ?_; intro a218 hF219; clear hF217
   refine gp hF219 91 3 [0] (((decide (u0.Want < 8)) || (decide ((u0.Data.length : Int) < 6))) || (decide ((u0.Data.length : Int) ≥ u0.Want))) (.int .i64 ((w64 ((u0.Data.length : Int) - 6)).tmod 7)) rfl rfl ?_; intro a220 hF221; clear hF219
   refine gp hF221 92 3 [0] (((decide (u0.Want < 8)) || (decide ((u0.Data.length : Int) < 6))) || (decide ((u0.Data.length : Int) ≥ u0.Want))) (.bool (((w64 ((u0.Data.length : Int) - 6)).tmod 7) != 0)) rfl rfl ?_; intro a222 hF223; clear hF221
   refine gd hF223 (.bool ((((decide (u0.Want < 8)) || (decide ((u0.Data.length : Int) < 6))) || (decide ((u0.Data.length : Int) ≥ u0.Want))) || (((w64 ((u0.Data.length : Int) - 6)).tmod 7) != 0))) (m := 0) (cj := []) (bj := decide (u0.Want > 0)) rfl rfl (by kernel_rfl) rfl (by kernel_rfl) (by kernel_rfl) (by kernel_rfl) (fun hg => pk_or hF223 (g := [0]) (m := 3) (b := ((decide (u0.Want < 8)) || (decide ((u0.Data.length : Int) < 6))) || (decide ((u0.Data.length : Int) ≥ u0.Want))) (v := ((w64 ((u0.Data.length : Int) - 6)).tmod 7) != 0) rfl (by kernel_rfl) (by kernel_rfl) (by kernel_rfl) hg) ?_; intro a224 hF225; clear hF223
   refine gp hF225 94 0 [] (decide (u0.Want > 0)) (.bool ((((decide (u0.Want < 8)) || (decide ((u0.Data.length : Int) < 6))) || (decide ((u0.Data.length : Int) ≥ u0.Want))) || (((w64 ((u0.Data.length : Int) - 6)).tmod 7) != 0))) rfl rfl ?_; intro a226 hF227; clear hF225
   have hF228 := hF227.atom (((((decide (u0.Want < 8)) || (decide ((u0.Data.length : Int) < 6))) || (decide ((u0.Data.length : Int) ≥ u0.Want))) || (((w64 ((u0.Data.length : Int) - 6)).tmod 7) != 0)) == false) (by kernel_rfl); clear hF227
   refine gp hF228 95 4 [0] ((((decide (u0.Want < 8)) || (decide ((u0.Data.length : Int) < 6))) || (decide ((u0.Data.length : Int) ≥ u0.Want))) || (((w64 ((u0.Data.length : Int) - 6)).tmod 7) != 0)) (.pointer (some ⟨b6, 2, none⟩)) rfl rfl ?_; intro a229 hF230; clear hF228
   refine gd hF230 (.int .i64 u0.Next) (m := 4) (cj := [0]) (bj := (((decide (u0.Want < 8)) || (decide ((u0.Data.length : Int) < 6))) || (decide ((u0.Data.length : Int) ≥ u0.Want))) || (((w64 ((u0.Data.length : Int) - 6)).tmod 7) != 0)) rfl rfl (by kernel_rfl) rfl (by kernel_rfl) (by kernel_rfl) (by kernel_rfl) (fun hg => ld hF230 hM10 0 (g := [4, 0]) (b := b6) (off := 2) (cs := [.int .i64 u0.Want, .slice ao1 u0.Data.length cap2, .int .i64 u0.Next, .int .i64 u0.Block, .int .i64 u0.Left]) (ty := 71) rfl (by kernel_rfl) (by kernel_rfl) (by kernel_rfl) (by kernel_rfl) hg) ?_; intro a231 hF232; clear hF230
   refine gp hF232 97 4 [0] ((((decide (u0.Want < 8)) || (decide ((u0.Data.length : Int) < 6))) || (decide ((u0.Data.length : Int) ≥ u0.Want))) || (((w64 ((u0.Data.length : Int) - 6)).tmod 7) != 0)) (.pointer (some ⟨b6, 1, none⟩)) rfl rfl ?_; intro a233 hF234; clear hF232
   refine gd hF234 (.slice ao1 u0.Data.length cap2) (m := 4) (cj := [0]) (bj := (((decide (u0.Want < 8)) || (decide ((u0.Data.length : Int) < 6))) || (decide ((u0.Data.length : Int) ≥ u0.Want))) || (((w64 ((u0.Data.length : Int) - 6)).tmod 7) != 0)) rfl rfl (by kernel_rfl) rfl (by kernel_rfl) (by kernel_rfl) (by kernel_rfl) (fun hg => ld hF234 hM10 0 (g := [4, 0]) (b := b6) (off := 1) (cs := [.int .i64 u0.Want, .slice ao1 u0.Data.length cap2, .int .i64 u0.Next, .int .i64 u0.Block, .int .i64 u0.Left]) (ty := 71) rfl (by kernel_rfl) (by kernel_rfl) (by kernel_rfl) (by kernel_rfl) hg) ?_; intro a235 hF236; clear hF234
   refine gp hF236 99 4 [0] ((((decide (u0.Want < 8)) || (decide ((u0.Data.length : Int) < 6))) || (decide ((u0.Data.length : Int) ≥ u0.Want))) || (((w64 ((u0.Data.length : Int) - 6)).tmod 7) != 0)) (.int .i64 (u0.Data.length : Int)) rfl rfl ?_; intro a237 hF238; clear hF236
   refine gp hF238 100 4 [0] ((((decide (u0.Want < 8)) || (decide ((u0.Data.length : Int) < 6))) || (decide ((u0.Data.length : Int) ≥ u0.Want))) || (((w64 ((u0.Data.length : Int) - 6)).tmod 7) != 0)) (.int .i64 (w64 ((u0.Data.length : Int) - 6))) rfl rfl ?_; intro a239 hF240; clear hF238
   refine gp hF240 101 4 [0] ((((decide (u0.Want < 8)) || (decide ((u0.Data.length : Int) < 6))) || (decide ((u0.Data.length : Int) ≥ u0.Want))) || (((w64 ((u0.Data.length : Int) - 6)).tmod 7) != 0)) (.int .i64 (w64 ((w64 ((u0.Data.length : Int) - 6)).tdiv 7))) rfl rfl ?_; intro a241 hF242; clear hF240
   refine gp hF242 102 4 [0] ((((decide (u0.Want < 8)) || (decide ((u0.Data.length : Int) < 6))) || (decide ((u0.Data.length : Int) ≥ u0.Want))) || (((w64 ((u0.Data.length : Int) - 6)).tmod 7) != 0)) (.int .i64 (w64 ((w64 ((w64 ((u0.Data.length : Int) - 6)).tdiv 7)) + 1))) rfl rfl ?_; intro a243 hF244; clear hF242
   refine gp hF244 103 4 [0] ((((decide (u0.Want < 8)) || (decide ((u0.Data.length : Int) < 6))) || (decide ((u0.Data.length : Int) ≥ u0.Want))) || (((w64 ((u0.Data.length : Int) - 6)).tmod 7) != 0)) (.int .i64 ((w64 ((w64 ((w64 ((u0.Data.length : Int) - 6)).tdiv 7)) + 1)).tmod 16)) rfl rfl ?_; intro a245 hF246; clear hF244
   refine gp hF246 104 4 [0] ((((decide (u0.Want < 8)) || (decide ((u0.Data.length : Int) < 6))) || (decide ((u0.Data.length : Int) ≥ u0.Want))) || (((w64 ((u0.Data.length : Int) - 6)).tmod 7) != 0)) (.bool (u0.Next != ((w64 ((w64 ((w64 ((u0.Data.length : Int) - 6)).tdiv 7)) + 1)).tmod 16))) rfl rfl ?_; intro a247 hF248; clear hF246
   refine gd hF248 (.bool (((((decide (u0.Want < 8)) || (decide ((u0.Data.length : Int) < 6))) || (decide ((u0.Data.length : Int) ≥ u0.Want))) || (((w64 ((u0.Data.length : Int) - 6)).tmod 7) != 0)) || (u0.Next != ((w64 ((w64 ((w64 ((u0.Data.length : Int) - 6)).tdiv 7)) + 1)).tmod 16)))) (m := 0) (cj := []) (bj := decide (u0.Want > 0)) rfl rfl (by kernel_rfl) rfl (by kernel_rfl) (by kernel_rfl) (by kernel_rfl) (fun hg => pk_or hF248 (g := [0]) (m := 4) (b := (((decide (u0.Want < 8)) || (decide ((u0.Data.length : Int) < 6))) || (decide ((u0.Data.length : Int) ≥ u0.Want))) || (((w64 ((u0.Data.length : Int) - 6)).tmod 7) != 0)) (v := u0.Next != ((w64 ((w64 ((w64 ((u0.Data.length : Int) - 6)).tdiv 7)) + 1)).tmod 16)) rfl (by kernel_rfl) (by kernel_rfl) (by kernel_rfl) hg) ?_; intro a249 hF250; clear hF248
   refine gp hF250 106 0 [] (decide (u0.Want > 0)) (.bool (((((decide (u0.Want < 8)) || (decide ((u0.Data.length : Int) < 6))) || (decide ((u0.Data.length : Int) ≥ u0.Want))) || (((w64 ((u0.Data.length : Int) - 6)).tmod 7) != 0)) || (u0.Next != ((w64 ((w64 ((w64 ((u0.Data.length : Int) - 6)).tdiv 7)) + 1)).tmod 16)))) rfl rfl ?_; intro a251 hF252; clear hF250
   have hF253 := hF252.atom ((((((decide (u0.Want < 8)) || (decide ((u0.Data.length : Int) < 6))) || (decide ((u0.Data.length : Int) ≥ u0.Want))) || (((w64 ((u0.Data.length : Int) - 6)).tmod 7) != 0)) || (u0.Next != ((w64 ((w64 ((w64 ((u0.Data.length : Int) - 6)).tdiv 7)) + 1)).tmod 16))) == false) (by kernel_rfl); clear hF252
   refine gp hF253 107 5 [0] (((((decide (u0.Want < 8)) || (decide ((u0.Data.length : Int) < 6))) || (decide ((u0.Data.length : Int) ≥ u0.Want))) || (((w64 ((u0.Data.length : Int) - 6)).tmod 7) != 0)) || (u0.Next != ((w64 ((w64 ((w64 ((u0.Data.length : Int) - 6)).tdiv 7)) + 1)).tmod 16))) (.pointer (some ⟨b6, 3, none⟩)) rfl rfl ?_; intro a254 hF255; clear hF253
   refine gd hF255 (.int .i64 u0.Block) (m := 5) (cj := [0]) (bj := ((((decide (u0.Want < 8)) || (decide ((u0.Data.length : Int) < 6))) || (decide ((u0.Data.length : Int) ≥ u0.Want))) || (((w64 ((u0.Data.length : Int) - 6)).tmod 7) != 0)) || (u0.Next != ((w64 ((w64 ((w64 ((u0.Data.length : Int) - 6)).tdiv 7)) + 1)).tmod 16))) rfl rfl (by kernel_rfl) rfl (by kernel_rfl) (by kernel_rfl) (by kernel_rfl) (fun hg => ld hF255 hM10 0 (g := [5, 0]) (b := b6) (off := 3) (cs := [.int .i64 u0.Want, .slice ao1 u0.Data.length cap2, .int .i64 u0.Next, .int .i64 u0.Block, .int .i64 u0.Left]) (ty := 71) rfl (by kernel_rfl) (by kernel_rfl) (by kernel_rfl) (by kernel_rfl) hg) ?_; intro a256 hF257; clear hF255
   refine gp hF257 109 5 [0] (((((decide (u0.Want < 8)) || (decide ((u0.Data.length : Int) < 6))) || (decide ((u0.Data.length : Int) ≥ u0.Want))) || (((w64 ((u0.Data.length : Int) - 6)).tmod 7) != 0)) || (u0.Next != ((w64 ((w64 ((w64 ((u0.Data.length : Int) - 6)).tdiv 7)) + 1)).tmod 16))) (.bool (decide (u0.Block > 0))) rfl rfl ?_; intro a258 hF259; clear hF257
   refine gp hF259 110 5 [0] (((((decide (u0.Want < 8)) || (decide ((u0.Data.length : Int) < 6))) || (decide ((u0.Data.length : Int) ≥ u0.Want))) || (((w64 ((u0.Data.length : Int) - 6)).tmod 7) != 0)) || (u0.Next != ((w64 ((w64 ((w64 ((u0.Data.length : Int) - 6)).tdiv 7)) + 1)).tmod 16))) (.bool (decide (u0.Block > 0))) rfl rfl ?_; intro a260 hF261; clear hF259
   have hF262 := hF261.atom ((decide (u0.Block > 0)) == true) (by kernel_rfl); clear hF261
   refine gp hF262 111 6 [5, 0] (decide (u0.Block > 0)) (.pointer (some ⟨b6, 4, none⟩)) rfl rfl ?_; intro a263 hF264; clear hF262
   refine gd hF264 (.int .i64 u0.Left) (m := 6) (cj := [5, 0]) (bj := decide (u0.Block > 0)) rfl rfl (by kernel_rfl) rfl (by kernel_rfl) (by kernel_rfl) (by kernel_rfl) (fun hg => ld hF264 hM10 0 (g := [6, 5, 0]) (b := b6) (off := 4) (cs := [.int .i64 u0.Want, .slice ao1 u0.Data.length cap2, .int .i64 u0.Next, .int .i64 u0.Block, .int .i64 u0.Left]) (ty := 71) rfl (by kernel_rfl) (by kernel_rfl) (by kernel_rfl) (by kernel_rfl) hg) ?_; intro a265 hF266; clear hF264
   refine gp hF266 113 6 [5, 0] (decide (u0.Block > 0)) (.bool (u0.Left == 0)) rfl rfl ?_; intro a267 hF268; clear hF266
   refine gd hF268 (.bool ((decide (u0.Block > 0)) && (u0.Left == 0))) (m := 5) (cj := [0]) (bj := ((((decide (u0.Want < 8)) || (decide ((u0.Data.length : Int) < 6))) || (decide ((u0.Data.length : Int) ≥ u0.Want))) || (((w64 ((u0.Data.length : Int) - 6)).tmod 7) != 0)) || (u0.Next != ((w64 ((w64 ((w64 ((u0.Data.length : Int) - 6)).tdiv 7)) + 1)).tmod 16))) rfl rfl (by kernel_rfl) rfl (by kernel_rfl) (by kernel_rfl) (by kernel_rfl) (fun hg => pk_and hF268 (g := [5, 0]) (m := 6) (b := decide (u0.Block > 0)) (v := u0.Left == 0) rfl (by kernel_rfl) (by kernel_rfl) (by kernel_rfl) hg) ?_; intro a269 hF270; clear hF268
   refine gd hF270 (.bool ((((((decide (u0.Want < 8)) || (decide ((u0.Data.length : Int) < 6))) || (decide ((u0.Data.length : Int) ≥ u0.Want))) || (((w64 ((u0.Data.length : Int) - 6)).tmod 7) != 0)) || (u0.Next != ((w64 ((w64 ((w64 ((u0.Data.length : Int) - 6)).tdiv 7)) + 1)).tmod 16))) || ((decide (u0.Block > 0)) && (u0.Left == 0)))) (m := 0) (cj := []) (bj := decide (u0.Want > 0)) rfl rfl (by kernel_rfl) rfl (by kernel_rfl) (by kernel_rfl) (by kernel_rfl) (fun hg => pk_or hF270 (g := [0]) (m := 5) (b := ((((decide (u0.Want < 8)) || (decide ((u0.Data.length : Int) < 6))) || (decide ((u0.Data.length : Int) ≥ u0.Want))) || (((w64 ((u0.Data.length : Int) - 6)).tmod 7) != 0)) || (u0.Next != ((w64 ((w64 ((w64 ((u0.Data.length : Int) - 6)).tdiv 7)) + 1)).tmod 16))) (v := (decide (u0.Block > 0)) && (u0.Left == 0)) rfl (by kernel_rfl) (by kernel_rfl) (by kernel_rfl) hg) ?_; intro a271 hF272; clear hF270
   refine st hF272 (.bool ((decide (u0.Want > 0)) && ((((((decide (u0.Want < 8)) || (decide ((u0.Data.length : Int) < 6))) || (decide ((u0.Data.length : Int) ≥ u0.Want))) || (((w64 ((u0.Data.length : Int) - 6)).tmod 7) != 0)) || (u0.Next != ((w64 ((w64 ((w64 ((u0.Data.length : Int) - 6)).tdiv 7)) + 1)).tmod 16))) || ((decide (u0.Block > 0)) && (u0.Left == 0))))) (nog rfl _) rfl (by kernel_rfl) (pk_and hF272 (g := []) (m := 0) (b := decide (u0.Want > 0)) (v := (((((decide (u0.Want < 8)) || (decide ((u0.Data.length : Int) < 6))) || (decide ((u0.Data.length : Int) ≥ u0.Want))) || (((w64 ((u0.Data.length : Int) - 6)).tmod 7) != 0)) || (u0.Next != ((w64 ((w64 ((w64 ((u0.Data.length : Int) - 6)).tdiv 7)) + 1)).tmod 16))) || ((decide (u0.Block > 0)) && (u0.Left == 0))) rfl (by kernel_rfl) (by kernel_rfl) (by kernel_rfl) rfl) ?_; intro a273 hF274; clear hF272
   refine s1 hF274 64 (.bool ((decide (u0.Want > 0)) && ((((((decide (u0.Want < 8)) || (decide ((u0.Data.length : Int) < 6))) || (decide ((u0.Data.length : Int) ≥ u0.Want))) || (((w64 ((u0.Data.length : Int) - 6)).tmod 7) != 0)) || (u0.Next != ((w64 ((w64 ((w64 ((u0.Data.length : Int) - 6)).tdiv 7)) + 1)).tmod 16))) || ((decide (u0.Block > 0)) && (u0.Left == 0))))) ?_; intro a275 hF276; clear hF274
   refine nlH (hQ163 _ _ ?_); clear hQ163 hQ163Q
   refine cd hF276 (t := (decide (u0.Want > 0)) && ((((((decide (u0.Want < 8)) || (decide ((u0.Data.length : Int) < 6))) || (decide ((u0.Data.length : Int) ≥ u0.Want))) || (((w64 ((u0.Data.length : Int) - 6)).tmod 7) != 0)) || (u0.Next != ((w64 ((w64 ((w64 ((u0.Data.length : Int) - 6)).tdiv 7)) + 1)).tmod 16))) || ((decide (u0.Block > 0)) && (u0.Left == 0)))) (by kernel_rfl) (fun hb277 => ?_) (fun hb277 => ?_)
   · -- yes
    have hp278 := hp161.1 hb277; clear hp161
    have hF279 : Fr 117 [] [] a275 := hF276.region (by kernel_rfl) (by kernel_rfl); clear hF276
    refine sqH ?_; intro hQ280Q hQ280
    refine s1 hF279 2 (.int .i64 4) ?_; intro a281 hF282; clear hF279
    refine nlH (hQ280 _ _ ?_); clear hQ280 hQ280Q
    refine wp_ret ?_
    refine ibr ?_
    refine thr ?_
    refine rt (fn := Try.f42) (v := .int .i64 4) hF282 (re1 hF282 (fn := Try.f42) rfl (by kernel_rfl)) ?_
    exact ⟨4, rfl, hp278, hM10.below⟩
   · -- no
    have hp283 := hp161.2 hb277; clear hp161
    refine wp_skip ?_
    refine ibn ?_
    refine thn ?_
    have hF284 : Fr 117 [] [] a275 := hF276.region (by kernel_rfl) (by kernel_rfl); clear hF276
    refine sqH ?_; intro hQ285Q hQ285
    refine s1 hF284 2 (.int .i64 0) ?_; intro a286 hF287; clear hF284
    refine nlH (hQ285 _ _ ?_); clear hQ285 hQ285Q
    refine wp_ret ?_
    refine rt (fn := Try.f42) (v := .int .i64 0) hF287 (re1 hF287 (fn := Try.f42) rfl (by kernel_rfl)) ?_
    exact ⟨0, rfl, hp283, hM10.below⟩
theorem pcheckg_fun (u0 : Getter) (ao1 : Option Addr) (cap2 : Nat) (Z : Fz) (w : World) (hs3 : SlR (tyInt .u8) Z ao1 cap2 u0.Data) (hZ : Z.on w) : Calls Try.prog 42 #[.agg #[.int .i64 u0.Want, .slice ao1 u0.Data.length cap2, .int .i64 u0.Next, .int .i64 u0.Block, .int .i64 u0.Left]] w fun e w' => e = .returned (.int .i64 (pcheckg u0)) ∧ Below w.heap.size w w' :=
  (pcheckg_walk u0 ao1 cap2 Z w hs3 hZ (pcheckg_ok u0)).mono fun _ _ ⟨r, he, hk, hb⟩ => ⟨by subst hk; exact he, hb⟩

set_option maxRecDepth 100000 in
theorem pflow_walk (u0 : Int)  (Z : Fz) (w : World)  (hZ : Z.on w) {K : (List Int) → Prop} (hp : pflow_vc u0 K) : Calls Try.prog 59 #[.int .i64 u0] w fun e w' => ∃ (r : (List Int)) (ao1001 : Option Addr) (cap1002 : Nat) (Z' : Fz), e = .returned (.slice ao1001 r.length cap1002) ∧ K r ∧ Mem w.heap.size [] w Z [.own (tyInt .u8) 5 ao1001 cap1002 r] Z' w' := by
 refine enter0 Try.func59 rfl rfl (by kernel_rfl) ?_; intro a0 hF0; have hM0 := Mem.start w Z hZ; have hle0 := Fz.le.refl Z
 refine sqH ?_; intro hQ1Q hQ1
 refine s1 hF0 2 (.slice none 0 0) ?_; intro a2 hF3; clear hF0
 refine nlH (hQ1 _ _ ?_); clear hQ1 hQ1Q
 refine sqH ?_; intro hQ4Q hQ4
 refine s1 hF3 3 (.int .i64 u0) ?_; intro a5 hF6; clear hF3
 refine s1 hF6 4 (.int .u8 (w8 u0)) ?_; intro a7 hF8; clear hF6
 refine sn hF8 hM0 (fun b => .slice (some ⟨b, 0, none⟩) 3 3) [.int .u8 48, .int .u8 (w8 u0), .int .u8 0] 5 (nog rfl _) rfl (by kernel_rfl) (by kernel_rfl) ?_; intro b9 a10 wd12 hF11 hM13; clear hF8 hM0
 refine s1 hF11 2 (.slice (some ⟨b9, 0, none⟩) 3 3) ?_; intro a14 hF15; clear hF11
 refine nlH (hQ4 _ _ ?_); clear hQ4 hQ4Q
 refine wp_ret ?_
 have hM16 : Mem w.heap.size [] w Z [.own (tyInt .u8) 5 (some ⟨b9, 0, none⟩) 3 ([48, w8 u0, 0] : List Int)] Z wd12 := hM13.rowOwn (T := (tyInt .u8)) (xs := ([48, w8 u0, 0] : List Int)) 0 rfl (by decide) (by show 3 ≤ lim; decide) ((RepAll.one (T := (tyInt .u8)) (x := 48) rfl).append ((RepAll.one (T := (tyInt .u8)) (x := w8 u0) rfl).append (RepAll.one (T := (tyInt .u8)) (x := 0) rfl))); clear hM13
 refine rt (fn := Try.f59) (v := .slice (some ⟨b9, 0, none⟩) ([48, w8 u0, 0] : List Int).length 3) hF15 (re1 hF15 (fn := Try.f59) rfl (by kernel_rfl)) ?_
 exact ⟨([48, w8 u0, 0] : List Int), (some ⟨b9, 0, none⟩), 3, Z, rfl, hp, hM16.keep (List.Sublist.cons_cons _ (List.Sublist.slnil))⟩
theorem pflow_fun (u0 : Int)  (Z : Fz) (w : World)  (hZ : Z.on w) : Calls Try.prog 59 #[.int .i64 u0] w fun e w' => ∃ (ao1001 : Option Addr) (cap1002 : Nat) (Z' : Fz), e = .returned (.slice ao1001 (pflow u0).length cap1002) ∧ Mem w.heap.size [] w Z [.own (tyInt .u8) 5 ao1001 cap1002 (pflow u0)] Z' w' :=
  (pflow_walk u0  Z w  hZ (pflow_ok u0)).mono fun _ _ ⟨r, h0, h1, h2, he, hk, hm⟩ => by subst hk; exact ⟨h0, h1, h2, he, hm⟩

set_option maxRecDepth 100000 in
theorem pbad_walk (u0 : List Int) (ao1 : Option Addr) (cap2 : Nat) (Z : Fz) (w : World) (hs3 : SlR (tyInt .u8) Z ao1 cap2 u0) (hZ : Z.on w) {K : Int → Prop} (hp : pbad_vc u0 K) : Calls Try.prog 39 #[.slice ao1 u0.length cap2] w fun e w' => ∃ r : Int, e = .returned (.int .i64 r) ∧ K r ∧ Below w.heap.size w w' := by
 refine enter0 Try.func39 rfl rfl (by kernel_rfl) ?_; intro a0 hF0; have hM0 := Mem.start w Z hZ; have hle0 := Fz.le.refl Z
 have hp4 := hp (hs3.small); clear hp
 refine sqH ?_; intro hQ5Q hQ5
 refine s1 hF0 2 (.int .i64 0) ?_; intro a6 hF7; clear hF0
 refine nlH (hQ5 _ _ ?_); clear hQ5 hQ5Q
 refine wp_seq ?_
 refine sqH ?_; intro hQ8Q hQ8
 refine s1 hF7 3 (.slice ao1 u0.length cap2) ?_; intro a9 hF10; clear hF7
 refine s1 hF10 4 (.int .i64 (u0.length : Int)) ?_; intro a11 hF12; clear hF10
 refine s1 hF12 5 (.bool ((u0.length : Int) == 0)) ?_; intro a13 hF14; clear hF12
 refine nlH (hQ8 _ _ ?_); clear hQ8 hQ8Q
 refine cd hF14 (t := (u0.length : Int) == 0) (by kernel_rfl) (fun hb15 => ?_) (fun hb15 => ?_)
 · -- yes
  have hp16 := hp4.1 hb15; clear hp4
  refine sqH ?_; intro hQ17Q hQ17
  refine s1 hF14 2 (.int .i64 7) ?_; intro a18 hF19; clear hF14
  refine nlH (hQ17 _ _ ?_); clear hQ17 hQ17Q
  refine wp_ret ?_
  refine thr ?_
  refine rt (fn := Try.f39) (v := .int .i64 7) hF19 (re1 hF19 (fn := Try.f39) rfl (by kernel_rfl)) ?_
  exact ⟨7, rfl, hp16, hM0.below⟩
 · -- no
  have hp20 := hp4.2 hb15; clear hp4
  refine wp_skip ?_
  refine thn ?_
  refine wp_seq ?_
  refine sqH ?_; intro hQ21Q hQ21
  refine s1 hF14 6 (.slice ao1 u0.length cap2) ?_; intro a22 hF23; clear hF14
  refine s1 hF23 7 (.int .i64 (u0.length : Int)) ?_; intro a24 hF25; clear hF23
  refine s1 hF25 8 (.bool (decide ((u0.length : Int) > 300))) ?_; intro a26 hF27; clear hF25
  refine nlH (hQ21 _ _ ?_); clear hQ21 hQ21Q
  refine cd hF27 (t := decide ((u0.length : Int) > 300)) (by kernel_rfl) (fun hb28 => ?_) (fun hb28 => ?_)
  · -- yes
   have hp29 := hp20.1 hb28; clear hp20
   refine sqH ?_; intro hQ30Q hQ30
   refine s1 hF27 2 (.int .i64 2) ?_; intro a31 hF32; clear hF27
   refine nlH (hQ30 _ _ ?_); clear hQ30 hQ30Q
   refine wp_ret ?_
   refine thr ?_
   refine rt (fn := Try.f39) (v := .int .i64 2) hF32 (re1 hF32 (fn := Try.f39) rfl (by kernel_rfl)) ?_
   exact ⟨2, rfl, hp29, hM0.below⟩
  · -- no
   have hp33 := hp20.2 hb28; clear hp20
   refine wp_skip ?_
   refine thn ?_
   refine sqH ?_; intro hQ34Q hQ34
   refine s1 hF27 2 (.int .i64 0) ?_; intro a35 hF36; clear hF27
   refine nlH (hQ34 _ _ ?_); clear hQ34 hQ34Q
   refine wp_ret ?_
   refine rt (fn := Try.f39) (v := .int .i64 0) hF36 (re1 hF36 (fn := Try.f39) rfl (by kernel_rfl)) ?_
   exact ⟨0, rfl, hp33, hM0.below⟩
theorem pbad_fun (u0 : List Int) (ao1 : Option Addr) (cap2 : Nat) (Z : Fz) (w : World) (hs3 : SlR (tyInt .u8) Z ao1 cap2 u0) (hZ : Z.on w) : Calls Try.prog 39 #[.slice ao1 u0.length cap2] w fun e w' => e = .returned (.int .i64 (pbad u0)) ∧ Below w.heap.size w w' :=
  (pbad_walk u0 ao1 cap2 Z w hs3 hZ (pbad_ok u0)).mono fun _ _ ⟨r, he, hk, hb⟩ => ⟨by subst hk; exact he, hb⟩

set_option maxRecDepth 100000 in
theorem pin_walk (u0 : Int) (u1 : Int)  (Z : Fz) (w : World)  (hZ : Z.on w) {K : Bool → Prop} (hp : pin_vc u0 u1 K) : Calls Try.prog 61 #[.int .i64 u0, .int .i64 u1] w fun e w' => ∃ r : Bool, e = .returned (.bool r) ∧ K r ∧ Below w.heap.size w w' := by
 refine enter0 Try.func61 rfl rfl (by kernel_rfl) ?_; intro a0 hF0; have hM0 := Mem.start w Z hZ; have hle0 := Fz.le.refl Z
 refine sqH ?_; intro hQ1Q hQ1
 refine s1 hF0 4 (.bool false) ?_; intro a2 hF3; clear hF0
 refine nlH (hQ1 _ _ ?_); clear hQ1 hQ1Q
 refine sqH ?_; intro hQ4Q hQ4
 refine s1 hF3 5 (.int .i64 u0) ?_; intro a5 hF6; clear hF3
 refine s1 hF6 6 (.bool (decide (u0 ≥ 0))) ?_; intro a7 hF8; clear hF6
 refine s1 hF8 7 (.bool (decide (u0 ≥ 0))) ?_; intro a9 hF10; clear hF8
 have hF11 := hF10.atom ((decide (u0 ≥ 0)) == true) (by kernel_rfl); clear hF10
 refine gp hF11 8 0 [] (decide (u0 ≥ 0)) (.int .i64 u0) rfl rfl ?_; intro a12 hF13; clear hF11
 refine gp hF13 9 0 [] (decide (u0 ≥ 0)) (.int .i64 u1) rfl rfl ?_; intro a14 hF15; clear hF13
 refine gp hF15 10 0 [] (decide (u0 ≥ 0)) (.bool (decide (u0 ≤ u1))) rfl rfl ?_; intro a16 hF17; clear hF15
 refine st hF17 (.bool ((decide (u0 ≥ 0)) && (decide (u0 ≤ u1)))) (nog rfl _) rfl (by kernel_rfl) (pk_and hF17 (g := []) (m := 0) (b := decide (u0 ≥ 0)) (v := decide (u0 ≤ u1)) rfl (by kernel_rfl) (by kernel_rfl) (by kernel_rfl) rfl) ?_; intro a18 hF19; clear hF17
 refine s1 hF19 4 (.bool ((decide (u0 ≥ 0)) && (decide (u0 ≤ u1)))) ?_; intro a20 hF21; clear hF19
 refine nlH (hQ4 _ _ ?_); clear hQ4 hQ4Q
 refine wp_ret ?_
 refine rt (fn := Try.f61) (v := .bool ((decide (u0 ≥ 0)) && (decide (u0 ≤ u1)))) hF21 (re1 hF21 (fn := Try.f61) rfl (by kernel_rfl)) ?_
 exact ⟨(decide (u0 ≥ 0)) && (decide (u0 ≤ u1)), rfl, hp, hM0.below⟩
theorem pin_fun (u0 : Int) (u1 : Int)  (Z : Fz) (w : World)  (hZ : Z.on w) : Calls Try.prog 61 #[.int .i64 u0, .int .i64 u1] w fun e w' => e = .returned (.bool (pin u0 u1)) ∧ Below w.heap.size w w' :=
  (pin_walk u0 u1  Z w  hZ (pin_ok u0 u1)).mono fun _ _ ⟨r, he, hk, hb⟩ => ⟨by subst hk; exact he, hb⟩

set_option maxRecDepth 100000 in
theorem rchecks_walk (u0 : Sender) (ao1 : Option Addr) (cap2 : Nat) (Z : Fz) (w : World) (hs3 : SlR (tyInt .u8) Z ao1 cap2 u0.Data) (hZ : Z.on w) {K : Int → Prop} (hp : rchecks_vc u0 K) : Calls Try.prog 32 #[.agg #[.slice ao1 u0.Data.length cap2, .int .i64 u0.At, .int .i64 u0.Next, .int .i64 u0.Left, .bool u0.Done]] w fun e w' => ∃ r : Int, e = .returned (.int .i64 r) ∧ K r ∧ Below w.heap.size w w' := by
 refine enter0 Try.func32 rfl rfl (by kernel_rfl) ?_; intro a0 hF0; have hM0 := Mem.start w Z hZ; have hle0 := Fz.le.refl Z
 have hp4 := hp (hs3.small); clear hp
 refine sqH ?_; intro hQ5Q hQ5
 refine sn hF0 hM0 (fun b => .pointer (some ⟨b, 0, none⟩)) [.slice ao1 u0.Data.length cap2, .int .i64 u0.At, .int .i64 u0.Next, .int .i64 u0.Left, .bool u0.Done] 53 (nog rfl _) rfl (by kernel_rfl) (by kernel_rfl) ?_; intro b6 a7 wd9 hF8 hM10; clear hF0 hM0
 refine s1 hF8 2 (.int .i64 0) ?_; intro a11 hF12; clear hF8
 refine nlH (hQ5 _ _ ?_); clear hQ5 hQ5Q
 refine sqH ?_; intro hQ13Q hQ13
 refine s1 hF12 6 (.pointer (some ⟨b6, 0, none⟩)) ?_; intro a14 hF15; clear hF12
 refine l1 hF15 hM10 7 0 0 (.slice ao1 u0.Data.length cap2) rfl rfl ?_; intro a16 hF17; clear hF15
 refine s1 hF17 8 (.int .i64 (u0.Data.length : Int)) ?_; intro a18 hF19; clear hF17
 refine s1 hF19 3 (.int .i64 (u0.Data.length : Int)) ?_; intro a20 hF21; clear hF19
 refine nlH (hQ13 _ _ ?_); clear hQ13 hQ13Q
 refine wp_seq ?_
 refine sqH ?_; intro hQ22Q hQ22
 refine s1 hF21 9 (.int .i64 (u0.Data.length : Int)) ?_; intro a23 hF24; clear hF21
 refine s1 hF24 10 (.bool (decide ((u0.Data.length : Int) > 300))) ?_; intro a25 hF26; clear hF24
 refine nlH (hQ22 _ _ ?_); clear hQ22 hQ22Q
 refine cd hF26 (t := decide ((u0.Data.length : Int) > 300)) (by kernel_rfl) (fun hb27 => ?_) (fun hb27 => ?_)
 · -- yes
  have hp28 := hp4.1 hb27; clear hp4
  refine sqH ?_; intro hQ29Q hQ29
  refine s1 hF26 2 (.int .i64 2) ?_; intro a30 hF31; clear hF26
  refine nlH (hQ29 _ _ ?_); clear hQ29 hQ29Q
  refine wp_ret ?_
  refine thr ?_
  refine rt (fn := Try.f32) (v := .int .i64 2) hF31 (re1 hF31 (fn := Try.f32) rfl (by kernel_rfl)) ?_
  exact ⟨2, rfl, hp28, hM10.below⟩
 · -- no
  have hp32 := hp4.2 hb27; clear hp4
  refine wp_skip ?_
  refine thn ?_
  refine wp_seq ?_
  refine sqH ?_; intro hQ33Q hQ33
  refine s1 hF26 11 (.int .i64 (u0.Data.length : Int)) ?_; intro a34 hF35; clear hF26
  refine s1 hF35 12 (.bool ((u0.Data.length : Int) == 0)) ?_; intro a36 hF37; clear hF35
  refine s1 hF37 13 (.bool ((u0.Data.length : Int) == 0)) ?_; intro a38 hF39; clear hF37
  have hF40 := hF39.atom (((u0.Data.length : Int) == 0) == false) (by kernel_rfl); clear hF39
  refine gp hF40 14 0 [] ((u0.Data.length : Int) == 0) (.pointer (some ⟨b6, 1, none⟩)) rfl rfl ?_; intro a41 hF42; clear hF40
  refine gd hF42 (.int .i64 u0.At) (m := 0) (cj := []) (bj := (u0.Data.length : Int) == 0) rfl rfl (by kernel_rfl) rfl (by kernel_rfl) (by kernel_rfl) (by kernel_rfl) (fun hg => ld hF42 hM10 0 (g := [0]) (b := b6) (off := 1) (cs := [.slice ao1 u0.Data.length cap2, .int .i64 u0.At, .int .i64 u0.Next, .int .i64 u0.Left, .bool u0.Done]) (ty := 53) rfl (by kernel_rfl) (by kernel_rfl) (by kernel_rfl) (by kernel_rfl) hg) ?_; intro a43 hF44; clear hF42
  refine gp hF44 16 0 [] ((u0.Data.length : Int) == 0) (.bool (decide (u0.At < 0))) rfl rfl ?_; intro a45 hF46; clear hF44
  refine st hF46 (.bool (((u0.Data.length : Int) == 0) || (decide (u0.At < 0)))) (nog rfl _) rfl (by kernel_rfl) (pk_or hF46 (g := []) (m := 0) (b := (u0.Data.length : Int) == 0) (v := decide (u0.At < 0)) rfl (by kernel_rfl) (by kernel_rfl) (by kernel_rfl) rfl) ?_; intro a47 hF48; clear hF46
  refine s1 hF48 18 (.bool (((u0.Data.length : Int) == 0) || (decide (u0.At < 0)))) ?_; intro a49 hF50; clear hF48
  have hF51 := hF50.atom ((((u0.Data.length : Int) == 0) || (decide (u0.At < 0))) == false) (by kernel_rfl); clear hF50
  refine gp hF51 19 1 [] (((u0.Data.length : Int) == 0) || (decide (u0.At < 0))) (.pointer (some ⟨b6, 1, none⟩)) rfl rfl ?_; intro a52 hF53; clear hF51
  refine gd hF53 (.int .i64 u0.At) (m := 1) (cj := []) (bj := ((u0.Data.length : Int) == 0) || (decide (u0.At < 0))) rfl rfl (by kernel_rfl) rfl (by kernel_rfl) (by kernel_rfl) (by kernel_rfl) (fun hg => ld hF53 hM10 0 (g := [1]) (b := b6) (off := 1) (cs := [.slice ao1 u0.Data.length cap2, .int .i64 u0.At, .int .i64 u0.Next, .int .i64 u0.Left, .bool u0.Done]) (ty := 53) rfl (by kernel_rfl) (by kernel_rfl) (by kernel_rfl) (by kernel_rfl) hg) ?_; intro a54 hF55; clear hF53
  refine gp hF55 21 1 [] (((u0.Data.length : Int) == 0) || (decide (u0.At < 0))) (.int .i64 (u0.Data.length : Int)) rfl rfl ?_; intro a56 hF57; clear hF55
  refine gp hF57 22 1 [] (((u0.Data.length : Int) == 0) || (decide (u0.At < 0))) (.bool (decide (u0.At > (u0.Data.length : Int)))) rfl rfl ?_; intro a58 hF59; clear hF57
  refine st hF59 (.bool ((((u0.Data.length : Int) == 0) || (decide (u0.At < 0))) || (decide (u0.At > (u0.Data.length : Int))))) (nog rfl _) rfl (by kernel_rfl) (pk_or hF59 (g := []) (m := 1) (b := ((u0.Data.length : Int) == 0) || (decide (u0.At < 0))) (v := decide (u0.At > (u0.Data.length : Int))) rfl (by kernel_rfl) (by kernel_rfl) (by kernel_rfl) rfl) ?_; intro a60 hF61; clear hF59
  refine s1 hF61 24 (.bool ((((u0.Data.length : Int) == 0) || (decide (u0.At < 0))) || (decide (u0.At > (u0.Data.length : Int))))) ?_; intro a62 hF63; clear hF61
  have hF64 := hF63.atom (((((u0.Data.length : Int) == 0) || (decide (u0.At < 0))) || (decide (u0.At > (u0.Data.length : Int)))) == false) (by kernel_rfl); clear hF63
  refine gp hF64 25 2 [] ((((u0.Data.length : Int) == 0) || (decide (u0.At < 0))) || (decide (u0.At > (u0.Data.length : Int)))) (.pointer (some ⟨b6, 3, none⟩)) rfl rfl ?_; intro a65 hF66; clear hF64
  refine gd hF66 (.int .i64 u0.Left) (m := 2) (cj := []) (bj := (((u0.Data.length : Int) == 0) || (decide (u0.At < 0))) || (decide (u0.At > (u0.Data.length : Int)))) rfl rfl (by kernel_rfl) rfl (by kernel_rfl) (by kernel_rfl) (by kernel_rfl) (fun hg => ld hF66 hM10 0 (g := [2]) (b := b6) (off := 3) (cs := [.slice ao1 u0.Data.length cap2, .int .i64 u0.At, .int .i64 u0.Next, .int .i64 u0.Left, .bool u0.Done]) (ty := 53) rfl (by kernel_rfl) (by kernel_rfl) (by kernel_rfl) (by kernel_rfl) hg) ?_; intro a67 hF68; clear hF66
  refine gp hF68 27 2 [] ((((u0.Data.length : Int) == 0) || (decide (u0.At < 0))) || (decide (u0.At > (u0.Data.length : Int)))) (.bool (decide (u0.Left < (-1)))) rfl rfl ?_; intro a69 hF70; clear hF68
  refine st hF70 (.bool (((((u0.Data.length : Int) == 0) || (decide (u0.At < 0))) || (decide (u0.At > (u0.Data.length : Int)))) || (decide (u0.Left < (-1))))) (nog rfl _) rfl (by kernel_rfl) (pk_or hF70 (g := []) (m := 2) (b := (((u0.Data.length : Int) == 0) || (decide (u0.At < 0))) || (decide (u0.At > (u0.Data.length : Int)))) (v := decide (u0.Left < (-1))) rfl (by kernel_rfl) (by kernel_rfl) (by kernel_rfl) rfl) ?_; intro a71 hF72; clear hF70
  refine s1 hF72 29 (.bool (((((u0.Data.length : Int) == 0) || (decide (u0.At < 0))) || (decide (u0.At > (u0.Data.length : Int)))) || (decide (u0.Left < (-1))))) ?_; intro a73 hF74; clear hF72
  have hF75 := hF74.atom ((((((u0.Data.length : Int) == 0) || (decide (u0.At < 0))) || (decide (u0.At > (u0.Data.length : Int)))) || (decide (u0.Left < (-1)))) == false) (by kernel_rfl); clear hF74
  refine gp hF75 30 3 [] (((((u0.Data.length : Int) == 0) || (decide (u0.At < 0))) || (decide (u0.At > (u0.Data.length : Int)))) || (decide (u0.Left < (-1)))) (.pointer (some ⟨b6, 3, none⟩)) rfl rfl ?_; intro a76 hF77; clear hF75
  refine gd hF77 (.int .i64 u0.Left) (m := 3) (cj := []) (bj := ((((u0.Data.length : Int) == 0) || (decide (u0.At < 0))) || (decide (u0.At > (u0.Data.length : Int)))) || (decide (u0.Left < (-1)))) rfl rfl (by kernel_rfl) rfl (by kernel_rfl) (by kernel_rfl) (by kernel_rfl) (fun hg => ld hF77 hM10 0 (g := [3]) (b := b6) (off := 3) (cs := [.slice ao1 u0.Data.length cap2, .int .i64 u0.At, .int .i64 u0.Next, .int .i64 u0.Left, .bool u0.Done]) (ty := 53) rfl (by kernel_rfl) (by kernel_rfl) (by kernel_rfl) (by kernel_rfl) hg) ?_; intro a78 hF79; clear hF77
  refine gp hF79 32 3 [] (((((u0.Data.length : Int) == 0) || (decide (u0.At < 0))) || (decide (u0.At > (u0.Data.length : Int)))) || (decide (u0.Left < (-1)))) (.bool (decide (u0.Left > 255))) rfl rfl ?_; intro a80 hF81; clear hF79
  refine st hF81 (.bool ((((((u0.Data.length : Int) == 0) || (decide (u0.At < 0))) || (decide (u0.At > (u0.Data.length : Int)))) || (decide (u0.Left < (-1)))) || (decide (u0.Left > 255)))) (nog rfl _) rfl (by kernel_rfl) (pk_or hF81 (g := []) (m := 3) (b := ((((u0.Data.length : Int) == 0) || (decide (u0.At < 0))) || (decide (u0.At > (u0.Data.length : Int)))) || (decide (u0.Left < (-1)))) (v := decide (u0.Left > 255)) rfl (by kernel_rfl) (by kernel_rfl) (by kernel_rfl) rfl) ?_; intro a82 hF83; clear hF81
  refine s1 hF83 34 (.bool ((((((u0.Data.length : Int) == 0) || (decide (u0.At < 0))) || (decide (u0.At > (u0.Data.length : Int)))) || (decide (u0.Left < (-1)))) || (decide (u0.Left > 255)))) ?_; intro a84 hF85; clear hF83
  have hF86 := hF85.atom (((((((u0.Data.length : Int) == 0) || (decide (u0.At < 0))) || (decide (u0.At > (u0.Data.length : Int)))) || (decide (u0.Left < (-1)))) || (decide (u0.Left > 255))) == false) (by kernel_rfl); clear hF85
  refine gp hF86 35 4 [] ((((((u0.Data.length : Int) == 0) || (decide (u0.At < 0))) || (decide (u0.At > (u0.Data.length : Int)))) || (decide (u0.Left < (-1)))) || (decide (u0.Left > 255))) (.pointer (some ⟨b6, 2, none⟩)) rfl rfl ?_; intro a87 hF88; clear hF86
  refine gd hF88 (.int .i64 u0.Next) (m := 4) (cj := []) (bj := (((((u0.Data.length : Int) == 0) || (decide (u0.At < 0))) || (decide (u0.At > (u0.Data.length : Int)))) || (decide (u0.Left < (-1)))) || (decide (u0.Left > 255))) rfl rfl (by kernel_rfl) rfl (by kernel_rfl) (by kernel_rfl) (by kernel_rfl) (fun hg => ld hF88 hM10 0 (g := [4]) (b := b6) (off := 2) (cs := [.slice ao1 u0.Data.length cap2, .int .i64 u0.At, .int .i64 u0.Next, .int .i64 u0.Left, .bool u0.Done]) (ty := 53) rfl (by kernel_rfl) (by kernel_rfl) (by kernel_rfl) (by kernel_rfl) hg) ?_; intro a89 hF90; clear hF88
  refine gp hF90 37 4 [] ((((((u0.Data.length : Int) == 0) || (decide (u0.At < 0))) || (decide (u0.At > (u0.Data.length : Int)))) || (decide (u0.Left < (-1)))) || (decide (u0.Left > 255))) (.bool (decide (u0.Next < 0))) rfl rfl ?_; intro a91 hF92; clear hF90
  refine st hF92 (.bool (((((((u0.Data.length : Int) == 0) || (decide (u0.At < 0))) || (decide (u0.At > (u0.Data.length : Int)))) || (decide (u0.Left < (-1)))) || (decide (u0.Left > 255))) || (decide (u0.Next < 0)))) (nog rfl _) rfl (by kernel_rfl) (pk_or hF92 (g := []) (m := 4) (b := (((((u0.Data.length : Int) == 0) || (decide (u0.At < 0))) || (decide (u0.At > (u0.Data.length : Int)))) || (decide (u0.Left < (-1)))) || (decide (u0.Left > 255))) (v := decide (u0.Next < 0)) rfl (by kernel_rfl) (by kernel_rfl) (by kernel_rfl) rfl) ?_; intro a93 hF94; clear hF92
  refine s1 hF94 39 (.bool (((((((u0.Data.length : Int) == 0) || (decide (u0.At < 0))) || (decide (u0.At > (u0.Data.length : Int)))) || (decide (u0.Left < (-1)))) || (decide (u0.Left > 255))) || (decide (u0.Next < 0)))) ?_; intro a95 hF96; clear hF94
  have hF97 := hF96.atom ((((((((u0.Data.length : Int) == 0) || (decide (u0.At < 0))) || (decide (u0.At > (u0.Data.length : Int)))) || (decide (u0.Left < (-1)))) || (decide (u0.Left > 255))) || (decide (u0.Next < 0))) == false) (by kernel_rfl); clear hF96
  refine gp hF97 40 5 [] (((((((u0.Data.length : Int) == 0) || (decide (u0.At < 0))) || (decide (u0.At > (u0.Data.length : Int)))) || (decide (u0.Left < (-1)))) || (decide (u0.Left > 255))) || (decide (u0.Next < 0))) (.pointer (some ⟨b6, 2, none⟩)) rfl rfl ?_; intro a98 hF99; clear hF97
  refine gd hF99 (.int .i64 u0.Next) (m := 5) (cj := []) (bj := ((((((u0.Data.length : Int) == 0) || (decide (u0.At < 0))) || (decide (u0.At > (u0.Data.length : Int)))) || (decide (u0.Left < (-1)))) || (decide (u0.Left > 255))) || (decide (u0.Next < 0))) rfl rfl (by kernel_rfl) rfl (by kernel_rfl) (by kernel_rfl) (by kernel_rfl) (fun hg => ld hF99 hM10 0 (g := [5]) (b := b6) (off := 2) (cs := [.slice ao1 u0.Data.length cap2, .int .i64 u0.At, .int .i64 u0.Next, .int .i64 u0.Left, .bool u0.Done]) (ty := 53) rfl (by kernel_rfl) (by kernel_rfl) (by kernel_rfl) (by kernel_rfl) hg) ?_; intro a100 hF101; clear hF99
  refine gp hF101 42 5 [] (((((((u0.Data.length : Int) == 0) || (decide (u0.At < 0))) || (decide (u0.At > (u0.Data.length : Int)))) || (decide (u0.Left < (-1)))) || (decide (u0.Left > 255))) || (decide (u0.Next < 0))) (.bool (decide (u0.Next > 15))) rfl rfl ?_; intro a102 hF103; clear hF101
  refine st hF103 (.bool ((((((((u0.Data.length : Int) == 0) || (decide (u0.At < 0))) || (decide (u0.At > (u0.Data.length : Int)))) || (decide (u0.Left < (-1)))) || (decide (u0.Left > 255))) || (decide (u0.Next < 0))) || (decide (u0.Next > 15)))) (nog rfl _) rfl (by kernel_rfl) (pk_or hF103 (g := []) (m := 5) (b := ((((((u0.Data.length : Int) == 0) || (decide (u0.At < 0))) || (decide (u0.At > (u0.Data.length : Int)))) || (decide (u0.Left < (-1)))) || (decide (u0.Left > 255))) || (decide (u0.Next < 0))) (v := decide (u0.Next > 15)) rfl (by kernel_rfl) (by kernel_rfl) (by kernel_rfl) rfl) ?_; intro a104 hF105; clear hF103
  refine nlH (hQ33 _ _ ?_); clear hQ33 hQ33Q
  refine cd hF105 (t := (((((((u0.Data.length : Int) == 0) || (decide (u0.At < 0))) || (decide (u0.At > (u0.Data.length : Int)))) || (decide (u0.Left < (-1)))) || (decide (u0.Left > 255))) || (decide (u0.Next < 0))) || (decide (u0.Next > 15))) (by kernel_rfl) (fun hb106 => ?_) (fun hb106 => ?_)
  · -- yes
   have hp107 := hp32.1 hb106; clear hp32
   have hF108 : Fr 90 [] [] a104 := hF105.region (by kernel_rfl) (by kernel_rfl); clear hF105
   refine sqH ?_; intro hQ109Q hQ109
   refine s1 hF108 2 (.int .i64 3) ?_; intro a110 hF111; clear hF108
   refine nlH (hQ109 _ _ ?_); clear hQ109 hQ109Q
   refine wp_ret ?_
   refine thr ?_
   refine rt (fn := Try.f32) (v := .int .i64 3) hF111 (re1 hF111 (fn := Try.f32) rfl (by kernel_rfl)) ?_
   exact ⟨3, rfl, hp107, hM10.below⟩
  · -- no
   have hp112 := hp32.2 hb106; clear hp32
   refine wp_skip ?_
   refine thn ?_
   refine wp_seq ?_
   have hF113 : Fr 90 [] [⟨1, [], .pointer (some ⟨b6, 0, none⟩)⟩, ⟨3, [], .int .i64 (u0.Data.length : Int)⟩] a104 := hF105.region (by kernel_rfl) (by kernel_rfl); clear hF105
   refine sqH ?_; intro hQ114Q hQ114
   refine s1 hF113 44 (.pointer (some ⟨b6, 4, none⟩)) ?_; intro a115 hF116; clear hF113
   refine l1 hF116 hM10 45 0 4 (.bool u0.Done) rfl rfl ?_; intro a117 hF118; clear hF116
   refine s1 hF118 46 (.pointer (some ⟨b6, 1, none⟩)) ?_; intro a119 hF120; clear hF118
   refine l1 hF120 hM10 47 0 1 (.int .i64 u0.At) rfl rfl ?_; intro a121 hF122; clear hF120
   refine s1 hF122 48 (.int .i64 (u0.Data.length : Int)) ?_; intro a123 hF124; clear hF122
   refine s1 hF124 49 (.bool (u0.At == (u0.Data.length : Int))) ?_; intro a125 hF126; clear hF124
   refine s1 hF126 50 (.bool (u0.Done != (u0.At == (u0.Data.length : Int)))) ?_; intro a127 hF128; clear hF126
   refine s1 hF128 51 (.bool (u0.Done != (u0.At == (u0.Data.length : Int)))) ?_; intro a129 hF130; clear hF128
   have hF131 := hF130.atom ((u0.Done != (u0.At == (u0.Data.length : Int))) == false) (by kernel_rfl); clear hF130
   refine gp hF131 52 0 [] (u0.Done != (u0.At == (u0.Data.length : Int))) (.pointer (some ⟨b6, 4, none⟩)) rfl rfl ?_; intro a132 hF133; clear hF131
   refine gd hF133 (.bool u0.Done) (m := 0) (cj := []) (bj := u0.Done != (u0.At == (u0.Data.length : Int))) rfl rfl (by kernel_rfl) rfl (by kernel_rfl) (by kernel_rfl) (by kernel_rfl) (fun hg => ld hF133 hM10 0 (g := [0]) (b := b6) (off := 4) (cs := [.slice ao1 u0.Data.length cap2, .int .i64 u0.At, .int .i64 u0.Next, .int .i64 u0.Left, .bool u0.Done]) (ty := 53) rfl (by kernel_rfl) (by kernel_rfl) (by kernel_rfl) (by kernel_rfl) hg) ?_; intro a134 hF135; clear hF133
   refine gp hF135 54 0 [] (u0.Done != (u0.At == (u0.Data.length : Int))) (.bool u0.Done) rfl rfl ?_; intro a136 hF137; clear hF135
   have hF138 := hF137.atom (u0.Done == true) (by kernel_rfl); clear hF137
   refine gp hF138 55 1 [0] (u0.Done) (.pointer (some ⟨b6, 3, none⟩)) rfl rfl ?_; intro a139 hF140; clear hF138
   refine gd hF140 (.int .i64 u0.Left) (m := 1) (cj := [0]) (bj := u0.Done) rfl rfl (by kernel_rfl) rfl (by kernel_rfl) (by kernel_rfl) (by kernel_rfl) (fun hg => ld hF140 hM10 0 (g := [1, 0]) (b := b6) (off := 3) (cs := [.slice ao1 u0.Data.length cap2, .int .i64 u0.At, .int .i64 u0.Next, .int .i64 u0.Left, .bool u0.Done]) (ty := 53) rfl (by kernel_rfl) (by kernel_rfl) (by kernel_rfl) (by kernel_rfl) hg) ?_; intro a141 hF142; clear hF140
   refine gp hF142 57 1 [0] (u0.Done) (.bool (u0.Left != 0)) rfl rfl ?_; intro a143 hF144; clear hF142
   refine gd hF144 (.bool (u0.Done && (u0.Left != 0))) (m := 0) (cj := []) (bj := u0.Done != (u0.At == (u0.Data.length : Int))) rfl rfl (by kernel_rfl) rfl (by kernel_rfl) (by kernel_rfl) (by kernel_rfl) (fun hg => pk_and hF144 (g := [0]) (m := 1) (b := u0.Done) (v := u0.Left != 0) rfl (by kernel_rfl) (by kernel_rfl) (by kernel_rfl) hg) ?_; intro a145 hF146; clear hF144
   refine st hF146 (.bool ((u0.Done != (u0.At == (u0.Data.length : Int))) || (u0.Done && (u0.Left != 0)))) (nog rfl _) rfl (by kernel_rfl) (pk_or hF146 (g := []) (m := 0) (b := u0.Done != (u0.At == (u0.Data.length : Int))) (v := u0.Done && (u0.Left != 0)) rfl (by kernel_rfl) (by kernel_rfl) (by kernel_rfl) rfl) ?_; intro a147 hF148; clear hF146
   refine nlH (hQ114 _ _ ?_); clear hQ114 hQ114Q
   refine cd hF148 (t := (u0.Done != (u0.At == (u0.Data.length : Int))) || (u0.Done && (u0.Left != 0))) (by kernel_rfl) (fun hb149 => ?_) (fun hb149 => ?_)
   · -- yes
    have hp150 := hp112.1 hb149; clear hp112
    have hF151 : Fr 90 [] [] a147 := hF148.region (by kernel_rfl) (by kernel_rfl); clear hF148
    refine sqH ?_; intro hQ152Q hQ152
    refine s1 hF151 2 (.int .i64 4) ?_; intro a153 hF154; clear hF151
    refine nlH (hQ152 _ _ ?_); clear hQ152 hQ152Q
    refine wp_ret ?_
    refine thr ?_
    refine rt (fn := Try.f32) (v := .int .i64 4) hF154 (re1 hF154 (fn := Try.f32) rfl (by kernel_rfl)) ?_
    exact ⟨4, rfl, hp150, hM10.below⟩
   · -- no
    have hp155 := hp112.2 hb149; clear hp112
    refine wp_skip ?_
    refine thn ?_
    refine wp_seq ?_
    have hF156 : Fr 90 [] [⟨1, [], .pointer (some ⟨b6, 0, none⟩)⟩, ⟨3, [], .int .i64 (u0.Data.length : Int)⟩] a147 := hF148.region (by kernel_rfl) (by kernel_rfl); clear hF148
    refine sqH ?_; intro hQ157Q hQ157
    refine s1 hF156 60 (.int .i64 (u0.Data.length : Int)) ?_; intro a158 hF159; clear hF156
    refine s1 hF159 61 (.bool (decide ((u0.Data.length : Int) ≤ 7))) ?_; intro a160 hF161; clear hF159
    refine nlH (hQ157 _ _ ?_); clear hQ157 hQ157Q
    refine cd hF161 (t := decide ((u0.Data.length : Int) ≤ 7)) (by kernel_rfl) (fun hb162 => ?_) (fun hb162 => ?_)
    · -- yes
     have hp163 := hp155.1 hb162; clear hp155
     refine wp_seq ?_
     refine sqH ?_; intro hQ164Q hQ164
     refine s1 hF161 62 (.pointer (some ⟨b6, 4, none⟩)) ?_; intro a165 hF166; clear hF161
     refine l1 hF166 hM10 63 0 4 (.bool u0.Done) rfl rfl ?_; intro a167 hF168; clear hF166
     refine s1 hF168 64 (.bool (!u0.Done)) ?_; intro a169 hF170; clear hF168
     refine s1 hF170 65 (.bool (!u0.Done)) ?_; intro a171 hF172; clear hF170
     have hF173 := hF172.atom ((!u0.Done) == false) (by kernel_rfl); clear hF172
     refine gp hF173 66 0 [] (!u0.Done) (.pointer (some ⟨b6, 2, none⟩)) rfl rfl ?_; intro a174 hF175; clear hF173
     refine gd hF175 (.int .i64 u0.Next) (m := 0) (cj := []) (bj := !u0.Done) rfl rfl (by kernel_rfl) rfl (by kernel_rfl) (by kernel_rfl) (by kernel_rfl) (fun hg => ld hF175 hM10 0 (g := [0]) (b := b6) (off := 2) (cs := [.slice ao1 u0.Data.length cap2, .int .i64 u0.At, .int .i64 u0.Next, .int .i64 u0.Left, .bool u0.Done]) (ty := 53) rfl (by kernel_rfl) (by kernel_rfl) (by kernel_rfl) (by kernel_rfl) hg) ?_; intro a176 hF177; clear hF175
     refine gp hF177 68 0 [] (!u0.Done) (.bool (u0.Next != 1)) rfl rfl ?_; intro a178 hF179; clear hF177
     refine st hF179 (.bool ((!u0.Done) || (u0.Next != 1))) (nog rfl _) rfl (by kernel_rfl) (pk_or hF179 (g := []) (m := 0) (b := !u0.Done) (v := u0.Next != 1) rfl (by kernel_rfl) (by kernel_rfl) (by kernel_rfl) rfl) ?_; intro a180 hF181; clear hF179
     refine nlH (hQ164 _ _ ?_); clear hQ164 hQ164Q
     refine cd hF181 (t := (!u0.Done) || (u0.Next != 1)) (by kernel_rfl) (fun hb182 => ?_) (fun hb182 => ?_)
     · -- yes
      have hp183 := hp163.1 hb182; clear hp163
      have hF184 : Fr 90 [] [] a180 := hF181.region (by kernel_rfl) (by kernel_rfl); clear hF181
      refine sqH ?_; intro hQ185Q hQ185
      refine s1 hF184 2 (.int .i64 4) ?_; intro a186 hF187; clear hF184
      refine nlH (hQ185 _ _ ?_); clear hQ185 hQ185Q
      refine wp_ret ?_
      refine thr ?_
      refine thr ?_
      refine rt (fn := Try.f32) (v := .int .i64 4) hF187 (re1 hF187 (fn := Try.f32) rfl (by kernel_rfl)) ?_
      exact ⟨4, rfl, hp183, hM10.below⟩
     · -- no
      have hp188 := hp163.2 hb182; clear hp163
      refine wp_skip ?_
      refine thn ?_
      have hF189 : Fr 90 [] [] a180 := hF181.region (by kernel_rfl) (by kernel_rfl); clear hF181
      refine sqH ?_; intro hQ190Q hQ190
      refine s1 hF189 2 (.int .i64 0) ?_; intro a191 hF192; clear hF189
      refine nlH (hQ190 _ _ ?_); clear hQ190 hQ190Q
      refine wp_ret ?_
      refine thr ?_
      refine rt (fn := Try.f32) (v := .int .i64 0) hF192 (re1 hF192 (fn := Try.f32) rfl (by kernel_rfl)) ?_
      exact ⟨0, rfl, hp188, hM10.below⟩
    · -- no
     have hp193 := hp155.2 hb162; clear hp155
     refine wp_skip ?_
     refine thn ?_
     refine sqH ?_; intro hQ194Q hQ194
     refine s1 hF161 4 (.int .i64 0) ?_; intro a195 hF196; clear hF161
     refine nlH (hQ194 _ _ ?_); clear hQ194 hQ194Q
     refine wp_block ?_
     have hF197 : Fr 90 [] [⟨1, [], .pointer (some ⟨b6, 0, none⟩)⟩, ⟨3, [], .int .i64 (u0.Data.length : Int)⟩, ⟨4, [], .int .i64 0⟩] a195 := hF196.region (by kernel_rfl) (by kernel_rfl); clear hF196
     have hF199 : Fr 90 [] [⟨1, [], .pointer (some ⟨b6, 0, none⟩)⟩, ⟨3, [], .int .i64 (u0.Data.length : Int)⟩, ⟨4, [], .int .i64 0⟩] a195 := hF197.region (by kernel_rfl) (by kernel_rfl); clear hF197
     obtain ⟨inv198, mu198, hI202, hr201⟩ := hp193
     refine lp (ι := Int) (fun (s : Int) => [⟨1, [], .pointer (some ⟨b6, 0, none⟩)⟩, ⟨3, [], .int .i64 (u0.Data.length : Int)⟩, ⟨4, [], .int .i64 s⟩]) (fun (s : Int) => [.row b6 [.slice ao1 u0.Data.length cap2, .int .i64 u0.At, .int .i64 u0.Next, .int .i64 u0.Left, .bool u0.Done] 53]) (fun (s : Int) => Z) (fun (s : Int) => inv198 s) (fun (s : Int) => mu198 s) 0 hI202 (by exact hF199.region (by kernel_rfl) (by kernel_rfl)) (by exact hM10) ?_
     rintro x4 hI200 a204 wd205 hF206 hM207
     have hF208 : Fr 90 [] [⟨1, [], .pointer (some ⟨b6, 0, none⟩)⟩, ⟨3, [], .int .i64 (u0.Data.length : Int)⟩, ⟨4, [], .int .i64 x4⟩] a204 := hF206; clear hF206 hF199
     have hM209 : Mem w.heap.size [] w Z [.row b6 [.slice ao1 u0.Data.length cap2, .int .i64 u0.At, .int .i64 u0.Next, .int .i64 u0.Left, .bool u0.Done] 53] Z wd205 := hM207; clear hM207 hM10
     have hp210 := hr201 x4 hI200
     refine wp_seq ?_
     refine wp_block ?_
     refine sqH ?_; intro hQ211Q hQ211
     refine s1 hF208 72 (.int .i64 x4) ?_; intro a212 hF213; clear hF208
     refine s1 hF213 73 (.int .i64 (w64 (7 * x4))) ?_; intro a214 hF215; clear hF213
     refine s1 hF215 74 (.int .i64 (w64 (6 + (w64 (7 * x4))))) ?_; intro a216 hF217; clear hF215
     refine s1 hF217 75 (.int .i64 (u0.Data.length : Int)) ?_; intro a218 hF219; clear hF217
     refine st hF219 (.int .i64 (min (w64 (6 + (w64 (7 * x4)))) (u0.Data.length : Int))) (nog rfl _) rfl (by kernel_rfl) (re_ (p0 hF219 (r := .ok (.value (.int .i64 (if (u0.Data.length : Int) < (w64 (6 + (w64 (7 * x4)))) then (u0.Data.length : Int) else (w64 (6 + (w64 (7 * x4))))))) wd205) (by kernel_rfl)) (by rw [imin])) ?_; intro a220 hF221; clear hF219
     refine s1 hF221 5 (.int .i64 (min (w64 (6 + (w64 (7 * x4)))) (u0.Data.length : Int))) ?_; intro a222 hF223; clear hF221
     refine nlH (hQ211 _ _ ?_); clear hQ211 hQ211Q
     refine wp_seq ?_
     refine sqH ?_; intro hQ224Q hQ224
     refine s1 hF223 77 (.int .i64 (min (w64 (6 + (w64 (7 * x4)))) (u0.Data.length : Int))) ?_; intro a225 hF226; clear hF223
     refine s1 hF226 78 (.pointer (some ⟨b6, 1, none⟩)) ?_; intro a227 hF228; clear hF226
     refine l1 hF228 hM209 79 0 1 (.int .i64 u0.At) rfl rfl ?_; intro a229 hF230; clear hF228
     refine s1 hF230 80 (.bool ((min (w64 (6 + (w64 (7 * x4)))) (u0.Data.length : Int)) == u0.At)) ?_; intro a231 hF232; clear hF230
     refine nlH (hQ224 _ _ ?_); clear hQ224 hQ224Q
     refine cd hF232 (t := (min (w64 (6 + (w64 (7 * x4)))) (u0.Data.length : Int)) == u0.At) (by kernel_rfl) (fun hb233 => ?_) (fun hb233 => ?_)
     · -- yes
      have hp234 := hp210.1 hb233; clear hp210
      refine wp_seq ?_
      refine sqH ?_; intro hQ235Q hQ235
      refine s1 hF232 81 (.pointer (some ⟨b6, 2, none⟩)) ?_; intro a236 hF237; clear hF232
      refine l1 hF237 hM209 82 0 2 (.int .i64 u0.Next) rfl rfl ?_; intro a238 hF239; clear hF237
      refine s1 hF239 83 (.int .i64 x4) ?_; intro a240 hF241; clear hF239
      refine s1 hF241 84 (.int .i64 (w64 (x4 + 1))) ?_; intro a242 hF243; clear hF241
      refine s1 hF243 85 (.int .i64 ((w64 (x4 + 1)).tmod 16)) ?_; intro a244 hF245; clear hF243
      refine s1 hF245 86 (.bool (u0.Next != ((w64 (x4 + 1)).tmod 16))) ?_; intro a246 hF247; clear hF245
      refine nlH (hQ235 _ _ ?_); clear hQ235 hQ235Q
      refine cd hF247 (t := u0.Next != ((w64 (x4 + 1)).tmod 16)) (by kernel_rfl) (fun hb248 => ?_) (fun hb248 => ?_)
      · -- yes
       have hp249 := hp234.1 hb248; clear hp234
       have hF250 : Fr 90 [] [] a246 := hF247.region (by kernel_rfl) (by kernel_rfl); clear hF247
       refine sqH ?_; intro hQ251Q hQ251
       refine s1 hF250 2 (.int .i64 4) ?_; intro a252 hF253; clear hF250
       refine nlH (hQ251 _ _ ?_); clear hQ251 hQ251Q
       refine wp_ret ?_
       refine thr ?_
       refine thr ?_
       refine ibr ?_
       refine thr ?_
       refine thr ?_
       refine ibr ?_
       refine rt (fn := Try.f32) (v := .int .i64 4) hF253 (re1 hF253 (fn := Try.f32) rfl (by kernel_rfl)) ?_
       exact ⟨4, rfl, hp249, hM209.below⟩
      · -- no
       have hp254 := hp234.2 hb248; clear hp234
       refine wp_skip ?_
       refine thn ?_
       have hF255 : Fr 90 [] [] a246 := hF247.region (by kernel_rfl) (by kernel_rfl); clear hF247
       refine sqH ?_; intro hQ256Q hQ256
       refine s1 hF255 2 (.int .i64 0) ?_; intro a257 hF258; clear hF255
       refine nlH (hQ256 _ _ ?_); clear hQ256 hQ256Q
       refine wp_ret ?_
       refine thr ?_
       refine ibr ?_
       refine thr ?_
       refine thr ?_
       refine ibr ?_
       refine rt (fn := Try.f32) (v := .int .i64 0) hF258 (re1 hF258 (fn := Try.f32) rfl (by kernel_rfl)) ?_
       exact ⟨0, rfl, hp254, hM209.below⟩
     · -- no
      have hp259 := hp210.2 hb233; clear hp210
      refine wp_skip ?_
      refine thn ?_
      refine sqH ?_; intro hQ260Q hQ260
      refine s1 hF232 87 (.int .i64 (min (w64 (6 + (w64 (7 * x4)))) (u0.Data.length : Int))) ?_; intro a261 hF262; clear hF232
      refine s1 hF262 88 (.int .i64 (u0.Data.length : Int)) ?_; intro a263 hF264; clear hF262
      refine s1 hF264 89 (.bool ((min (w64 (6 + (w64 (7 * x4)))) (u0.Data.length : Int)) == (u0.Data.length : Int))) ?_; intro a265 hF266; clear hF264
      refine nlH (hQ260 _ _ ?_); clear hQ260 hQ260Q
      refine cd hF266 (t := (min (w64 (6 + (w64 (7 * x4)))) (u0.Data.length : Int)) == (u0.Data.length : Int)) (by kernel_rfl) (fun hb267 => ?_) (fun hb267 => ?_)
      · -- yes
       have hp268 := hp259.1 hb267; clear hp259
       refine sqH ?_; intro hQ269Q hQ269
       refine s1 hF266 2 (.int .i64 4) ?_; intro a270 hF271; clear hF266
       refine nlH (hQ269 _ _ ?_); clear hQ269 hQ269Q
       refine wp_ret ?_
       refine ibr ?_
       refine thr ?_
       refine thr ?_
       refine ibr ?_
       refine rt (fn := Try.f32) (v := .int .i64 4) hF271 (re1 hF271 (fn := Try.f32) rfl (by kernel_rfl)) ?_
       exact ⟨4, rfl, hp268, hM209.below⟩
      · -- no
       have hp272 := hp259.2 hb267; clear hp259
       refine wp_skip ?_
       refine ibn ?_
       refine thn ?_
       refine rgH ?_; intro hQ273Q hQ273
       refine s1 hF266 70 (.int .i64 x4) ?_; intro a274 hF275; clear hF266
       refine s1 hF275 71 (.int .i64 (w64 (x4 + 1))) ?_; intro a276 hF277; clear hF275
       refine s1 hF277 4 (.int .i64 (w64 (x4 + 1))) ?_; intro a278 hF279; clear hF277
       refine nlH (hQ273 _ _ ?_); clear hQ273 hQ273Q
       refine rd ?_
       exact ⟨w64 (x4 + 1), hp272.1, hp272.2, (hF279.region (by kernel_rfl) (by kernel_rfl)).anyβ _ (by kernel_rfl), hM209.keep (List.Sublist.cons_cons _ (List.Sublist.slnil))⟩

end Go.Proofs.Ytkogkombalcgeaa
