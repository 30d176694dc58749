/- The walks, made by program: each call does what its pure predicate says. -/
import Derived.Test.YtodkadlfhlagpaaRows
import Derived.Test.YtodkadlfhlagpaaPA
set_option linter.unusedVariables false
set_option linter.unusedSimpArgs false
namespace Go.Proofs.Ytodkadlfhlagpaa
open Go.Sy Go.RowKit
theorem mixed : Try.prog.follows .mixedOrders = true := by kernel_rfl
theorem rdHealth : Rd Try.prog 28 tyHealth okHealth := by
  refine ⟨fun enc w fuel cs x h hw => ?_⟩
  have hu : Try.prog.underlying 28 = some (.struct _) := Try.underlying28
  have hl := rd_len hu h (m := 3) (by kernel_rfl)
  obtain ⟨q0, h0, k0⟩ := rd_field hu h hw 0 rfl (rd_int (P := Try.prog) (t := 3) (k := .i64) (by kernel_rfl)) (m := 1) (by kernel_rfl) (off := 0) rfl
  have e0 : (cs.drop 0).take 1 = [.int .i64 q0] := h0
  obtain ⟨q1, h1, k1⟩ := rd_field hu h hw 1 rfl (rd_int (P := Try.prog) (t := 3) (k := .i64) (by kernel_rfl)) (m := 1) (by kernel_rfl) (off := 1) rfl
  have e1 : (cs.drop 1).take 1 = [.int .i64 q1] := h1
  obtain ⟨q2, h2, k2⟩ := rd_field hu h hw 2 rfl (rd_int (P := Try.prog) (t := 3) (k := .i64) (by kernel_rfl)) (m := 1) (by kernel_rfl) (off := 2) rfl
  have e2 : (cs.drop 2).take 1 = [.int .i64 q2] := h2
  have z : cs.drop 3 = [] := List.drop_eq_nil_of_le (by omega)
  have g2 : cs.drop 2 = [.int .i64 q2] := by rw [show cs.drop 2 = (cs.drop 2).take 1 ++ cs.drop 3 from cut_at cs 2 1, e2, z]; rfl
  have g1 : cs.drop 1 = [.int .i64 q1, .int .i64 q2] := by rw [show cs.drop 1 = (cs.drop 1).take 1 ++ cs.drop 2 from cut_at cs 1 1, e1, g2]; rfl
  have g0 : cs.drop 0 = [.int .i64 q0, .int .i64 q1, .int .i64 q2] := by rw [show cs.drop 0 = (cs.drop 0).take 1 ++ cs.drop 1 from cut_at cs 0 1, e0, g1]; rfl
  refine ⟨⟨q0, q1, q2⟩, ?_, k0, k1, k2⟩
  rw [List.drop_zero] at g0
  exact g0

set_option maxRecDepth 100000 in
theorem sequal_walk (u0 : List Int) (u1 : List Int) (ao1 : Option Addr) (cap2 : Nat) (ao4 : Option Addr) (cap5 : Nat) (Z : Fz) (w : World) (hs3 : SlR (tyInt .i64) Z ao1 cap2 u0) (hs6 : SlR (tyInt .i64) Z ao4 cap5 u1) (hZ : Z.on w) {K : Bool → Prop} (hp : sequal_vc u0 u1 K) : Calls Try.prog 7 #[.slice ao1 u0.length cap2, .slice ao4 u1.length cap5] w fun e w' => ∃ r : Bool, e = .returned (.bool r) ∧ K r ∧ Below w.heap.size w w' := by
 refine enter0 Try.func7 rfl rfl (by kernel_rfl) ?_; intro a0 hF0; have hM0 := Mem.start w Z hZ; have hle0 := Fz.le.refl Z
 have hp7 := hp (hs3.small); clear hp
 have hp8 := hp7 (hs6.small); clear hp7
 refine sqH ?_; intro hQ9Q hQ9
 refine s1 hF0 4 (.bool false) ?_; intro a10 hF11; clear hF0
 refine nlH (hQ9 _ _ ?_); clear hQ9 hQ9Q
 refine wp_seq ?_
 refine sqH ?_; intro hQ12Q hQ12
 refine s1 hF11 6 (.slice ao1 u0.length cap2) ?_; intro a13 hF14; clear hF11
 refine s1 hF14 7 (.int .i64 (u0.length : Int)) ?_; intro a15 hF16; clear hF14
 refine s1 hF16 8 (.slice ao4 u1.length cap5) ?_; intro a17 hF18; clear hF16
 refine s1 hF18 9 (.int .i64 (u1.length : Int)) ?_; intro a19 hF20; clear hF18
 refine s1 hF20 10 (.bool ((u0.length : Int) != (u1.length : Int))) ?_; intro a21 hF22; clear hF20
 refine nlH (hQ12 _ _ ?_); clear hQ12 hQ12Q
 refine cd hF22 (t := (u0.length : Int) != (u1.length : Int)) (by kernel_rfl) (fun hb23 => ?_) (fun hb23 => ?_)
 · -- yes
  have hp24 := hp8.1 hb23; clear hp8
  refine sqH ?_; intro hQ25Q hQ25
  refine s1 hF22 4 (.bool false) ?_; intro a26 hF27; clear hF22
  refine nlH (hQ25 _ _ ?_); clear hQ25 hQ25Q
  refine wp_ret ?_
  refine thr ?_
  refine rt (fn := Try.f7) (v := .bool false) hF27 (re1 hF27 (fn := Try.f7) rfl (by kernel_rfl)) ?_
  exact ⟨false, rfl, hp24, hM0.below⟩
 · -- no
  have hp28 := hp8.2 hb23; clear hp8
  refine wp_skip ?_
  refine thn ?_
  refine wp_seq ?_
  refine sqH ?_; intro hQ29Q hQ29
  refine s1 hF22 11 (.slice ao1 u0.length cap2) ?_; intro a30 hF31; clear hF22
  refine s1 hF31 12 (.int .i64 (u0.length : Int)) ?_; intro a32 hF33; clear hF31
  refine s1 hF33 13 (.int .i64 0) ?_; intro a34 hF35; clear hF33
  refine nlH (hQ29 _ _ ?_); clear hQ29 hQ29Q
  refine wp_block ?_
  have hF36 : Fr 26 [] [⟨0, [], .slice ao1 u0.length cap2⟩, ⟨1, [], .slice ao4 u1.length cap5⟩, ⟨12, [], .int .i64 (u0.length : Int)⟩, ⟨13, [], .int .i64 0⟩] a34 := hF35.region (by kernel_rfl) (by kernel_rfl); clear hF35
  have hF38 : Fr 26 [] [⟨0, [], .slice ao1 u0.length cap2⟩, ⟨1, [], .slice ao4 u1.length cap5⟩, ⟨12, [], .int .i64 (u0.length : Int)⟩, ⟨13, [], .int .i64 0⟩] a34 := hF36.region (by kernel_rfl) (by kernel_rfl); clear hF36
  obtain ⟨inv37, mu37, hI41, hr40⟩ := hp28
  refine lp (ι := Int) (fun (s : Int) => [⟨0, [], .slice ao1 u0.length cap2⟩, ⟨1, [], .slice ao4 u1.length cap5⟩, ⟨12, [], .int .i64 (u0.length : Int)⟩, ⟨13, [], .int .i64 s⟩]) (fun (s : Int) => []) (fun (s : Int) => Z) (fun (s : Int) => inv37 s) (fun (s : Int) => mu37 s) 0 hI41 (by exact hF38.region (by kernel_rfl) (by kernel_rfl)) (by exact hM0) ?_
  rintro x13 hI39 a43 wd44 hF45 hM46
  have hF47 : Fr 26 [] [⟨0, [], .slice ao1 u0.length cap2⟩, ⟨1, [], .slice ao4 u1.length cap5⟩, ⟨12, [], .int .i64 (u0.length : Int)⟩, ⟨13, [], .int .i64 x13⟩] a43 := hF45; clear hF45 hF38
  have hM48 : Mem w.heap.size [] w Z [] Z wd44 := hM46; clear hM46 hM0
  have hp49 := hr40 x13 hI39
  refine sqH ?_; intro hQ50Q hQ50
  refine s1 hF47 14 (.bool (decide (x13 < (u0.length : Int)))) ?_; intro a51 hF52; clear hF47
  refine nlH (hQ50 _ _ ?_); clear hQ50 hQ50Q
  refine wp_seq ?_
  refine cd hF52 (t := decide (x13 < (u0.length : Int))) (by kernel_rfl) (fun hb53 => ?_) (fun hb53 => ?_)
  · -- yes
   have hp54 := hp49.1 hb53; clear hp49
   refine wp_skip ?_
   refine thn ?_
   refine wp_seq ?_
   refine wp_block ?_
   refine sqH ?_; intro hQ55Q hQ55
   refine s1 hF52 15 (.int .i64 x13) ?_; intro a56 hF57; clear hF52
   refine s1 hF57 5 (.int .i64 x13) ?_; intro a58 hF59; clear hF57
   refine nlH (hQ55 _ _ ?_); clear hQ55 hQ55Q
   have hF60 : Fr 26 [] [⟨0, [], .slice ao1 u0.length cap2⟩, ⟨1, [], .slice ao4 u1.length cap5⟩, ⟨5, [], .int .i64 x13⟩, ⟨12, [], .int .i64 (u0.length : Int)⟩, ⟨13, [], .int .i64 x13⟩] a58 := hF59.region (by kernel_rfl) (by kernel_rfl); clear hF59
   refine sqQH mixed (by kernel_rfl) hM48 ?_; intro hQ61Q hQ61
   refine q1 hF60 16 (.slice ao1 u0.length cap2) ?_; intro a63 hF64; clear hF60
   refine q1 hF64 17 (.int .i64 x13) ?_; intro a66 hF67; clear hF64
   have hc69 := hp54.1; have hp70 := hp54.2; clear hp54
   refine qix hF67 (T := (tyInt .i64)) (xs := u0) hs3 x13 hc69 (k := .i64) (e := 3) (bytes := 8) (nog rfl _) rfl (by kernel_rfl) rfl (by kernel_rfl) (by kernel_rfl) (by kernel_rfl) ?_; intro b71 off72 cs73 q74 a78 hq75 hP76 hT77 hF79; clear hF67
   have hp80 := hp70 q74 hq75; clear hp70
   obtain rfl : cs73 = ([.int .i64 q74] : List Value) := hT77
   refine qst hF79 (.int .i64 q74) (nog rfl _) rfl (by kernel_rfl) (fun v81 hC => lz hF79 hC.fz hP76 0 (g := []) rfl (by kernel_rfl) (by kernel_rfl) (by kernel_rfl) rfl) ?_; intro a82 hF83; clear hF79
   refine q1 hF83 20 (.slice ao4 u1.length cap5) ?_; intro a85 hF86; clear hF83
   refine q1 hF86 21 (.int .i64 x13) ?_; intro a88 hF89; clear hF86
   have hc91 := hp80.1; have hp92 := hp80.2; clear hp80
   refine qix hF89 (T := (tyInt .i64)) (xs := u1) hs6 x13 hc91 (k := .i64) (e := 3) (bytes := 8) (nog rfl _) rfl (by kernel_rfl) rfl (by kernel_rfl) (by kernel_rfl) (by kernel_rfl) ?_; intro b93 off94 cs95 q96 a100 hq97 hP98 hT99 hF101; clear hF89
   have hp102 := hp92 q96 hq97; clear hp92
   obtain rfl : cs95 = ([.int .i64 q96] : List Value) := hT99
   refine qst hF101 (.int .i64 q96) (nog rfl _) rfl (by kernel_rfl) (fun v103 hC => lz hF101 hC.fz hP98 0 (g := []) rfl (by kernel_rfl) (by kernel_rfl) (by kernel_rfl) rfl) ?_; intro a104 hF105; clear hF101
   refine q1 hF105 24 (.bool (q74 != q96)) ?_; intro a107 hF108; clear hF105
   refine qnl (hQ61 _ ?_); clear hQ61 hQ61Q; intro wd109 hM110; clear hM48
   refine cd hF108 (t := q74 != q96) (by kernel_rfl) (fun hb111 => ?_) (fun hb111 => ?_)
   · -- yes
    have hp112 := hp102.1 hb111; clear hp102
    refine sqH ?_; intro hQ113Q hQ113
    refine s1 hF108 4 (.bool false) ?_; intro a114 hF115; clear hF108
    refine nlH (hQ113 _ _ ?_); clear hQ113 hQ113Q
    refine wp_ret ?_
    refine ibr ?_
    refine thr ?_
    refine thr ?_
    refine ibr ?_
    refine thr ?_
    refine rt (fn := Try.f7) (v := .bool false) hF115 (re1 hF115 (fn := Try.f7) rfl (by kernel_rfl)) ?_
    exact ⟨false, rfl, hp112, hM110.below⟩
   · -- no
    have hp116 := hp102.2 hb111; clear hp102
    refine wp_skip ?_
    refine ibn ?_
    refine thn ?_
    refine rgH ?_; intro hQ117Q hQ117
    refine s1 hF108 25 (.int .i64 (w64 (x13 + 1))) ?_; intro a118 hF119; clear hF108
    refine s1 hF119 13 (.int .i64 (w64 (x13 + 1))) ?_; intro a120 hF121; clear hF119
    refine nlH (hQ117 _ _ ?_); clear hQ117 hQ117Q
    refine rd ?_
    exact ⟨w64 (x13 + 1), hp116.1, hp116.2, (hF121.region (by kernel_rfl) (by kernel_rfl)).anyβ _ (by kernel_rfl), hM110.keep (List.Sublist.slnil)⟩
  · -- no
   have hp122 := hp49.2 hb53; clear hp49
   refine wp_exit ?_
   refine thx ?_
   refine thx ?_
   refine ibx ?_
   refine thn ?_
   refine sqH ?_; intro hQ123Q hQ123
   refine s1 hF52 4 (.bool true) ?_; intro a124 hF125; clear hF52
   refine nlH (hQ123 _ _ ?_); clear hQ123 hQ123Q
   refine wp_ret ?_
   refine rt (fn := Try.f7) (v := .bool true) hF125 (re1 hF125 (fn := Try.f7) rfl (by kernel_rfl)) ?_
   exact ⟨true, rfl, hp122, hM48.below⟩

set_option maxRecDepth 100000 in
theorem names_walk   (Z : Fz) (w : World)  (hZ : Z.on w) {K : Bool → Prop} (hp : names_vc  K) : Calls Try.prog 3 #[] w fun e w' => ∃ r : Bool, e = .returned (.bool r) ∧ K r ∧ Below w.heap.size w w' := by
 refine enter0 Try.func3 rfl rfl (by kernel_rfl) ?_; intro a0 hF0; have hM0 := Mem.start w Z hZ; have hle0 := Fz.le.refl Z
 refine sqH ?_; intro hQ1Q hQ1
 refine s1 hF0 0 (.bool false) ?_; intro a2 hF3; clear hF0
 refine nlH (hQ1 _ _ ?_); clear hQ1 hQ1Q
 refine sqH ?_; intro hQ4Q hQ4
 refine sn hF3 hM0 (fun b => .slice (some ⟨b, 0, none⟩) 15 15) [.int .i64 0, .int .i64 1, .int .i64 2, .int .i64 3, .int .i64 4, .int .i64 5, .int .i64 6, .int .i64 7, .int .i64 8, .int .i64 9, .int .i64 10, .int .i64 11, .int .i64 12, .int .i64 13, .int .i64 14] 22 (nog rfl _) rfl (by kernel_rfl) (by kernel_rfl) ?_; intro b5 a6 wd8 hF7 hM9; clear hF3 hM0
 refine s1 hF7 1 (.slice (some ⟨b5, 0, none⟩) 15 15) ?_; intro a10 hF11; clear hF7
 refine nlH (hQ4 _ _ ?_); clear hQ4 hQ4Q
 refine wp_seq ?_
 refine sqH ?_; intro hQ12Q hQ12
 refine s1 hF11 7 (.slice (some ⟨b5, 0, none⟩) 15 15) ?_; intro a13 hF14; clear hF11
 refine s1 hF14 8 (.int .i64 15) ?_; intro a15 hF16; clear hF14
 refine s1 hF16 9 (.int .i64 0) ?_; intro a17 hF18; clear hF16
 refine nlH (hQ12 _ _ ?_); clear hQ12 hQ12Q
 refine wp_block ?_
 have hF19 : Fr 28 [] [⟨7, [], .slice (some ⟨b5, 0, none⟩) 15 15⟩, ⟨8, [], .int .i64 15⟩, ⟨9, [], .int .i64 0⟩] a17 := hF18.region (by kernel_rfl) (by kernel_rfl); clear hF18
 have hM21 : Mem w.heap.size [] w Z [.own (tyInt .i64) 22 (some ⟨b5, 0, none⟩) 15 ([0, 1, 2, 3, 4, 5, 6, 7, 8, 9, 10, 11, 12, 13, 14] : List Int)] Z wd8 := hM9.rowOwn (T := (tyInt .i64)) (xs := ([0, 1, 2, 3, 4, 5, 6, 7, 8, 9, 10, 11, 12, 13, 14] : List Int)) 0 rfl (by decide) (by decide) ((RepAll.one (T := (tyInt .i64)) (x := 0) rfl).append ((RepAll.one (T := (tyInt .i64)) (x := 1) rfl).append ((RepAll.one (T := (tyInt .i64)) (x := 2) rfl).append ((RepAll.one (T := (tyInt .i64)) (x := 3) rfl).append ((RepAll.one (T := (tyInt .i64)) (x := 4) rfl).append ((RepAll.one (T := (tyInt .i64)) (x := 5) rfl).append ((RepAll.one (T := (tyInt .i64)) (x := 6) rfl).append ((RepAll.one (T := (tyInt .i64)) (x := 7) rfl).append ((RepAll.one (T := (tyInt .i64)) (x := 8) rfl).append ((RepAll.one (T := (tyInt .i64)) (x := 9) rfl).append ((RepAll.one (T := (tyInt .i64)) (x := 10) rfl).append ((RepAll.one (T := (tyInt .i64)) (x := 11) rfl).append ((RepAll.one (T := (tyInt .i64)) (x := 12) rfl).append ((RepAll.one (T := (tyInt .i64)) (x := 13) rfl).append (RepAll.one (T := (tyInt .i64)) (x := 14) rfl))))))))))))))); clear hM9
 obtain ⟨Z22, hle23, hM24, hs25⟩ := hM21.freeze 0 rfl
 replace hle0 := Fz.le.trans hle0 hle23
 have hM26 : Mem w.heap.size [] w Z [] Z22 wd8 := hM24; clear hM24
 have hF27 : Fr 28 [] [⟨7, [], .slice (some ⟨b5, 0, none⟩) ([0, 1, 2, 3, 4, 5, 6, 7, 8, 9, 10, 11, 12, 13, 14] : List Int).length 15⟩, ⟨8, [], .int .i64 15⟩, ⟨9, [], .int .i64 0⟩] a17 := hF19.region (by kernel_rfl) (by kernel_rfl); clear hF19
 obtain ⟨inv20, mu20, hI30, hr29⟩ := hp
 refine lp (ι := Int) (fun (s : Int) => [⟨7, [], .slice (some ⟨b5, 0, none⟩) ([0, 1, 2, 3, 4, 5, 6, 7, 8, 9, 10, 11, 12, 13, 14] : List Int).length 15⟩, ⟨8, [], .int .i64 15⟩, ⟨9, [], .int .i64 s⟩]) (fun (s : Int) => []) (fun (s : Int) => Z22) (fun (s : Int) => inv20 s) (fun (s : Int) => mu20 s) 0 hI30 (by exact hF27.region (by kernel_rfl) (by kernel_rfl)) (by exact hM26) ?_
 rintro x9 hI28 a32 wd33 hF34 hM35
 have hF36 : Fr 28 [] [⟨7, [], .slice (some ⟨b5, 0, none⟩) ([0, 1, 2, 3, 4, 5, 6, 7, 8, 9, 10, 11, 12, 13, 14] : List Int).length 15⟩, ⟨8, [], .int .i64 15⟩, ⟨9, [], .int .i64 x9⟩] a32 := hF34; clear hF34 hF27
 have hM37 : Mem w.heap.size [] w Z [] Z22 wd33 := hM35; clear hM35 hM26
 have hp38 := hr29 x9 hI28
 refine sqH ?_; intro hQ39Q hQ39
 refine s1 hF36 10 (.bool (decide (x9 < 15))) ?_; intro a40 hF41; clear hF36
 refine nlH (hQ39 _ _ ?_); clear hQ39 hQ39Q
 refine wp_seq ?_
 refine cd hF41 (t := decide (x9 < 15)) (by kernel_rfl) (fun hb42 => ?_) (fun hb42 => ?_)
 · -- yes
  have hp43 := hp38.1 hb42; clear hp38
  refine wp_skip ?_
  refine thn ?_
  refine wp_seq ?_
  refine wp_block ?_
  refine sqH ?_; intro hQ44Q hQ44
  refine s1 hF41 11 (.int .i64 x9) ?_; intro a45 hF46; clear hF41
  have hc47 := hp43.1; have hp48 := hp43.2; clear hp43
  refine ix hF46 (T := (tyInt .i64)) (xs := ([0, 1, 2, 3, 4, 5, 6, 7, 8, 9, 10, 11, 12, 13, 14] : List Int)) hs25 x9 hc47 (k := .i64) (e := 22) (bytes := 8) (nog rfl _) rfl (by kernel_rfl) rfl (by kernel_rfl) (by kernel_rfl) (by kernel_rfl) ?_; intro b49 off50 cs51 q52 a56 hq53 hP54 hT55 hF57; clear hF46
  have hp58 := hp48 q52 hq53; clear hp48
  obtain rfl : cs51 = ([.int .i64 q52] : List Value) := hT55
  refine z1 hF57 hM37 13 hP54 0 (.int .i64 q52) rfl ?_; intro a59 hF60; clear hF57
  refine s1 hF60 2 (.int .i64 x9) ?_; intro a61 hF62; clear hF60
  refine s1 hF62 3 (.int .i64 q52) ?_; intro a63 hF64; clear hF62
  refine nlH (hQ44 _ _ ?_); clear hQ44 hQ44Q
  refine sqH ?_; intro hQ65Q hQ65
  refine s1 hF64 14 (.int .i64 q52) ?_; intro a66 hF67; clear hF64
  refine s1 hF67 15 (.int .i64 x9) ?_; intro a68 hF69; clear hF67
  refine s1 hF69 16 (.bool (q52 != x9)) ?_; intro a70 hF71; clear hF69
  refine nlH (hQ65 _ _ ?_); clear hQ65 hQ65Q
  refine cd hF71 (t := q52 != x9) (by kernel_rfl) (fun hb72 => ?_) (fun hb72 => ?_)
  · -- yes
   have hp73 := hp58.1 hb72; clear hp58
   refine sqH ?_; intro hQ74Q hQ74
   refine s1 hF71 0 (.bool false) ?_; intro a75 hF76; clear hF71
   refine nlH (hQ74 _ _ ?_); clear hQ74 hQ74Q
   refine wp_ret ?_
   refine ibr ?_
   refine thr ?_
   refine thr ?_
   refine ibr ?_
   refine thr ?_
   refine rt (fn := Try.f3) (v := .bool false) hF76 (re1 hF76 (fn := Try.f3) rfl (by kernel_rfl)) ?_
   exact ⟨false, rfl, hp73, hM37.below⟩
  · -- no
   have hp77 := hp58.2 hb72; clear hp58
   refine wp_skip ?_
   refine ibn ?_
   refine thn ?_
   refine rgH ?_; intro hQ78Q hQ78
   refine s1 hF71 17 (.int .i64 (w64 (x9 + 1))) ?_; intro a79 hF80; clear hF71
   refine s1 hF80 9 (.int .i64 (w64 (x9 + 1))) ?_; intro a81 hF82; clear hF80
   refine nlH (hQ78 _ _ ?_); clear hQ78 hQ78Q
   refine rd ?_
   exact ⟨w64 (x9 + 1), hp77.1, hp77.2, (hF82.region (by kernel_rfl) (by kernel_rfl)).anyβ _ (by kernel_rfl), hM37.keep (List.Sublist.slnil)⟩
 · -- no
  have hp83 := hp38.2 hb42; clear hp38
  refine wp_exit ?_
  refine thx ?_
  refine thx ?_
  refine ibx ?_
  refine thn ?_
  refine sqH ?_; intro hQ84Q hQ84
  refine sn hF41 hM37 (fun b => .slice (some ⟨b, 0, none⟩) 17 17) [.int .i64 1000, .int .i64 64, .int .i64 2047, .int .i64 536870911, .int .i64 16, .int .i64 20, .int .i64 4000, .int .i64 16, .int .i64 16, .int .i64 16, .int .i64 300, .int .i64 60, .int .i64 20, .int .i64 4, .int .i64 6, .int .i64 1000000, .int .i64 100] 3 (nog rfl _) rfl (by kernel_rfl) (by kernel_rfl) ?_; intro b85 a86 wd88 hF87 hM89; clear hF41 hM37
  refine s1 hF87 4 (.slice (some ⟨b85, 0, none⟩) 17 17) ?_; intro a90 hF91; clear hF87
  refine nlH (hQ84 _ _ ?_); clear hQ84 hQ84Q
  refine sqH ?_; intro hQ92Q hQ92
  refine sn hF91 hM89 (fun b => .slice (some ⟨b, 0, none⟩) 19 19) [.int .i64 0, .int .i64 1, .int .i64 2, .int .i64 1, .int .i64 2, .int .i64 3, .int .i64 4, .int .i64 5, .int .i64 6, .int .i64 0, .int .i64 1, .int .i64 2, .int .i64 3, .int .i64 4, .int .i64 1, .int .i64 2, .int .i64 3, .int .i64 4, .int .i64 5] 3 (nog rfl _) rfl (by kernel_rfl) (by kernel_rfl) ?_; intro b93 a94 wd96 hF95 hM97; clear hF91 hM89
  refine s1 hF95 5 (.slice (some ⟨b93, 0, none⟩) 19 19) ?_; intro a98 hF99; clear hF95
  refine nlH (hQ92 _ _ ?_); clear hQ92 hQ92Q
  refine sqH ?_; intro hQ100Q hQ100
  refine s1 hF99 20 (.slice (some ⟨b85, 0, none⟩) 17 17) ?_; intro a101 hF102; clear hF99
  refine sn hF102 hM97 (fun b => .slice (some ⟨b, 0, none⟩) 17 17) [.int .i64 1000, .int .i64 64, .int .i64 2047, .int .i64 536870911, .int .i64 16, .int .i64 20, .int .i64 4000, .int .i64 16, .int .i64 16, .int .i64 16, .int .i64 300, .int .i64 60, .int .i64 20, .int .i64 4, .int .i64 6, .int .i64 1000000, .int .i64 100] 3 (nog rfl _) rfl (by kernel_rfl) (by kernel_rfl) ?_; intro b103 a104 wd106 hF105 hM107; clear hF102 hM97
  have hM108 : Mem w.heap.size [] w Z [.row b103 [.int .i64 1000, .int .i64 64, .int .i64 2047, .int .i64 536870911, .int .i64 16, .int .i64 20, .int .i64 4000, .int .i64 16, .int .i64 16, .int .i64 16, .int .i64 300, .int .i64 60, .int .i64 20, .int .i64 4, .int .i64 6, .int .i64 1000000, .int .i64 100] 3, .row b93 [.int .i64 0, .int .i64 1, .int .i64 2, .int .i64 1, .int .i64 2, .int .i64 3, .int .i64 4, .int .i64 5, .int .i64 6, .int .i64 0, .int .i64 1, .int .i64 2, .int .i64 3, .int .i64 4, .int .i64 1, .int .i64 2, .int .i64 3, .int .i64 4, .int .i64 5] 3, .own (tyInt .i64) 3 (some ⟨b85, 0, none⟩) 17 ([1000, 64, 2047, 536870911, 16, 20, 4000, 16, 16, 16, 300, 60, 20, 4, 6, 1000000, 100] : List Int)] Z22 wd106 := hM107.rowOwn (T := (tyInt .i64)) (xs := ([1000, 64, 2047, 536870911, 16, 20, 4000, 16, 16, 16, 300, 60, 20, 4, 6, 1000000, 100] : List Int)) 2 rfl (by decide) (by decide) ((RepAll.one (T := (tyInt .i64)) (x := 1000) rfl).append ((RepAll.one (T := (tyInt .i64)) (x := 64) rfl).append ((RepAll.one (T := (tyInt .i64)) (x := 2047) rfl).append ((RepAll.one (T := (tyInt .i64)) (x := 536870911) rfl).append ((RepAll.one (T := (tyInt .i64)) (x := 16) rfl).append ((RepAll.one (T := (tyInt .i64)) (x := 20) rfl).append ((RepAll.one (T := (tyInt .i64)) (x := 4000) rfl).append ((RepAll.one (T := (tyInt .i64)) (x := 16) rfl).append ((RepAll.one (T := (tyInt .i64)) (x := 16) rfl).append ((RepAll.one (T := (tyInt .i64)) (x := 16) rfl).append ((RepAll.one (T := (tyInt .i64)) (x := 300) rfl).append ((RepAll.one (T := (tyInt .i64)) (x := 60) rfl).append ((RepAll.one (T := (tyInt .i64)) (x := 20) rfl).append ((RepAll.one (T := (tyInt .i64)) (x := 4) rfl).append ((RepAll.one (T := (tyInt .i64)) (x := 6) rfl).append ((RepAll.one (T := (tyInt .i64)) (x := 1000000) rfl).append (RepAll.one (T := (tyInt .i64)) (x := 100) rfl))))))))))))))))); clear hM107
  obtain ⟨Z109, hle110, hM111, hs112⟩ := hM108.freeze 2 rfl
  replace hs25 := hs25.mono hle110
  replace hle0 := Fz.le.trans hle0 hle110
  have hM113 : Mem w.heap.size [] w Z [.row b103 [.int .i64 1000, .int .i64 64, .int .i64 2047, .int .i64 536870911, .int .i64 16, .int .i64 20, .int .i64 4000, .int .i64 16, .int .i64 16, .int .i64 16, .int .i64 300, .int .i64 60, .int .i64 20, .int .i64 4, .int .i64 6, .int .i64 1000000, .int .i64 100] 3, .row b93 [.int .i64 0, .int .i64 1, .int .i64 2, .int .i64 1, .int .i64 2, .int .i64 3, .int .i64 4, .int .i64 5, .int .i64 6, .int .i64 0, .int .i64 1, .int .i64 2, .int .i64 3, .int .i64 4, .int .i64 1, .int .i64 2, .int .i64 3, .int .i64 4, .int .i64 5] 3] Z109 wd106 := hM111; clear hM111
  have hM114 : Mem w.heap.size [] w Z [.own (tyInt .i64) 3 (some ⟨b103, 0, none⟩) 17 ([1000, 64, 2047, 536870911, 16, 20, 4000, 16, 16, 16, 300, 60, 20, 4, 6, 1000000, 100] : List Int), .row b93 [.int .i64 0, .int .i64 1, .int .i64 2, .int .i64 1, .int .i64 2, .int .i64 3, .int .i64 4, .int .i64 5, .int .i64 6, .int .i64 0, .int .i64 1, .int .i64 2, .int .i64 3, .int .i64 4, .int .i64 1, .int .i64 2, .int .i64 3, .int .i64 4, .int .i64 5] 3] Z109 wd106 := hM113.rowOwn (T := (tyInt .i64)) (xs := ([1000, 64, 2047, 536870911, 16, 20, 4000, 16, 16, 16, 300, 60, 20, 4, 6, 1000000, 100] : List Int)) 0 rfl (by decide) (by decide) ((RepAll.one (T := (tyInt .i64)) (x := 1000) rfl).append ((RepAll.one (T := (tyInt .i64)) (x := 64) rfl).append ((RepAll.one (T := (tyInt .i64)) (x := 2047) rfl).append ((RepAll.one (T := (tyInt .i64)) (x := 536870911) rfl).append ((RepAll.one (T := (tyInt .i64)) (x := 16) rfl).append ((RepAll.one (T := (tyInt .i64)) (x := 20) rfl).append ((RepAll.one (T := (tyInt .i64)) (x := 4000) rfl).append ((RepAll.one (T := (tyInt .i64)) (x := 16) rfl).append ((RepAll.one (T := (tyInt .i64)) (x := 16) rfl).append ((RepAll.one (T := (tyInt .i64)) (x := 16) rfl).append ((RepAll.one (T := (tyInt .i64)) (x := 300) rfl).append ((RepAll.one (T := (tyInt .i64)) (x := 60) rfl).append ((RepAll.one (T := (tyInt .i64)) (x := 20) rfl).append ((RepAll.one (T := (tyInt .i64)) (x := 4) rfl).append ((RepAll.one (T := (tyInt .i64)) (x := 6) rfl).append ((RepAll.one (T := (tyInt .i64)) (x := 1000000) rfl).append (RepAll.one (T := (tyInt .i64)) (x := 100) rfl))))))))))))))))); clear hM113
  obtain ⟨Z115, hle116, hM117, hs118⟩ := hM114.freeze 0 rfl
  replace hs25 := hs25.mono hle116
  replace hs112 := hs112.mono hle116
  replace hle0 := Fz.le.trans hle0 hle116
  have hM119 : Mem w.heap.size [] w Z [.row b93 [.int .i64 0, .int .i64 1, .int .i64 2, .int .i64 1, .int .i64 2, .int .i64 3, .int .i64 4, .int .i64 5, .int .i64 6, .int .i64 0, .int .i64 1, .int .i64 2, .int .i64 3, .int .i64 4, .int .i64 1, .int .i64 2, .int .i64 3, .int .i64 4, .int .i64 5] 3] Z115 wd106 := hM117; clear hM117
  refine cl hF105 7 #[.slice (some ⟨b85, 0, none⟩) ([1000, 64, 2047, 536870911, 16, 20, 4000, 16, 16, 16, 300, 60, 20, 4, 6, 1000000, 100] : List Int).length 17, .slice (some ⟨b103, 0, none⟩) ([1000, 64, 2047, 536870911, 16, 20, 4000, 16, 16, 16, 300, 60, 20, 4, 6, 1000000, 100] : List Int).length 17] (nog rfl _) rfl (by kernel_rfl) (by kernel_rfl) ?_
  refine (sequal_walk ([1000, 64, 2047, 536870911, 16, 20, 4000, 16, 16, 16, 300, 60, 20, 4, 6, 1000000, 100] : List Int) ([1000, 64, 2047, 536870911, 16, 20, 4000, 16, 16, 16, 300, 60, 20, 4, 6, 1000000, 100] : List Int) (some ⟨b85, 0, none⟩) 17 (some ⟨b103, 0, none⟩) 17 _ _ hs112 hs118 hM119.fz hp83).mono ?_; rintro _ wd121 ⟨r120, rfl, hp125, hb⟩; refine ⟨_, rfl, ?_⟩; intro a122 hF123; have hM124 := hM119.call hb; clear hb hM119 hF105
  refine s1 hF123 23 (.bool r120) ?_; intro a126 hF127; clear hF123
  have hF128 := hF127.atom (r120 == true) (by kernel_rfl); clear hF127
  refine gp hF128 24 0 [] (r120) (.slice (some ⟨b93, 0, none⟩) 19 19) rfl rfl ?_; intro a129 hF130; clear hF128
  rcases Bool.eq_false_or_eq_true (r120) with hb131 | hb131
  · -- true
   have hp132 := hp125.1 hb131; clear hp125
   have hF133 := hF130.reval (d := 23) (c := []) (v := .bool r120) (by kernel_rfl) (.bool true) (by rw [hb131]); clear hF130
   have hF134 := hF133.setc (d := 24) (c := [0]) (v := .slice (some ⟨b93, 0, none⟩) 19 19) (by kernel_rfl) (v' := .slice (some ⟨b93, 0, none⟩) 19 19) (by rw [hb131]; kernel_rfl); clear hF133
   refine sn hF134 hM124 (fun b => .slice (some ⟨b, 0, none⟩) 19 19) [.int .i64 0, .int .i64 1, .int .i64 2, .int .i64 1, .int .i64 2, .int .i64 3, .int .i64 4, .int .i64 5, .int .i64 6, .int .i64 0, .int .i64 1, .int .i64 2, .int .i64 3, .int .i64 4, .int .i64 1, .int .i64 2, .int .i64 3, .int .i64 4, .int .i64 5] 3 (by rw [wanted_of hF134 (b := true) rfl rfl (by kernel_rfl) (by kernel_rfl)]; rfl) rfl (by kernel_rfl) (by kernel_rfl) ?_; intro b135 a136 wd138 hF137 hM139; clear hF134 hM124
   have hM140 : Mem w.heap.size [] w Z [.row b135 [.int .i64 0, .int .i64 1, .int .i64 2, .int .i64 1, .int .i64 2, .int .i64 3, .int .i64 4, .int .i64 5, .int .i64 6, .int .i64 0, .int .i64 1, .int .i64 2, .int .i64 3, .int .i64 4, .int .i64 1, .int .i64 2, .int .i64 3, .int .i64 4, .int .i64 5] 3, .own (tyInt .i64) 3 (some ⟨b93, 0, none⟩) 19 ([0, 1, 2, 1, 2, 3, 4, 5, 6, 0, 1, 2, 3, 4, 1, 2, 3, 4, 5] : List Int)] Z115 wd138 := hM139.rowOwn (T := (tyInt .i64)) (xs := ([0, 1, 2, 1, 2, 3, 4, 5, 6, 0, 1, 2, 3, 4, 1, 2, 3, 4, 5] : List Int)) 1 rfl (by decide) (by decide) ((RepAll.one (T := (tyInt .i64)) (x := 0) rfl).append ((RepAll.one (T := (tyInt .i64)) (x := 1) rfl).append ((RepAll.one (T := (tyInt .i64)) (x := 2) rfl).append ((RepAll.one (T := (tyInt .i64)) (x := 1) rfl).append ((RepAll.one (T := (tyInt .i64)) (x := 2) rfl).append ((RepAll.one (T := (tyInt .i64)) (x := 3) rfl).append ((RepAll.one (T := (tyInt .i64)) (x := 4) rfl).append ((RepAll.one (T := (tyInt .i64)) (x := 5) rfl).append ((RepAll.one (T := (tyInt .i64)) (x := 6) rfl).append ((RepAll.one (T := (tyInt .i64)) (x := 0) rfl).append ((RepAll.one (T := (tyInt .i64)) (x := 1) rfl).append ((RepAll.one (T := (tyInt .i64)) (x := 2) rfl).append ((RepAll.one (T := (tyInt .i64)) (x := 3) rfl).append ((RepAll.one (T := (tyInt .i64)) (x := 4) rfl).append ((RepAll.one (T := (tyInt .i64)) (x := 1) rfl).append ((RepAll.one (T := (tyInt .i64)) (x := 2) rfl).append ((RepAll.one (T := (tyInt .i64)) (x := 3) rfl).append ((RepAll.one (T := (tyInt .i64)) (x := 4) rfl).append (RepAll.one (T := (tyInt .i64)) (x := 5) rfl))))))))))))))))))); clear hM139
   obtain ⟨Z141, hle142, hM143, hs144⟩ := hM140.freeze 1 rfl
   replace hs25 := hs25.mono hle142
   replace hs112 := hs112.mono hle142
   replace hs118 := hs118.mono hle142
   replace hle0 := Fz.le.trans hle0 hle142
   have hM145 : Mem w.heap.size [] w Z [.row b135 [.int .i64 0, .int .i64 1, .int .i64 2, .int .i64 1, .int .i64 2, .int .i64 3, .int .i64 4, .int .i64 5, .int .i64 6, .int .i64 0, .int .i64 1, .int .i64 2, .int .i64 3, .int .i64 4, .int .i64 1, .int .i64 2, .int .i64 3, .int .i64 4, .int .i64 5] 3] Z141 wd138 := hM143; clear hM143
   have hM146 : Mem w.heap.size [] w Z [.own (tyInt .i64) 3 (some ⟨b135, 0, none⟩) 19 ([0, 1, 2, 1, 2, 3, 4, 5, 6, 0, 1, 2, 3, 4, 1, 2, 3, 4, 5] : List Int)] Z141 wd138 := hM145.rowOwn (T := (tyInt .i64)) (xs := ([0, 1, 2, 1, 2, 3, 4, 5, 6, 0, 1, 2, 3, 4, 1, 2, 3, 4, 5] : List Int)) 0 rfl (by decide) (by decide) ((RepAll.one (T := (tyInt .i64)) (x := 0) rfl).append ((RepAll.one (T := (tyInt .i64)) (x := 1) rfl).append ((RepAll.one (T := (tyInt .i64)) (x := 2) rfl).append ((RepAll.one (T := (tyInt .i64)) (x := 1) rfl).append ((RepAll.one (T := (tyInt .i64)) (x := 2) rfl).append ((RepAll.one (T := (tyInt .i64)) (x := 3) rfl).append ((RepAll.one (T := (tyInt .i64)) (x := 4) rfl).append ((RepAll.one (T := (tyInt .i64)) (x := 5) rfl).append ((RepAll.one (T := (tyInt .i64)) (x := 6) rfl).append ((RepAll.one (T := (tyInt .i64)) (x := 0) rfl).append ((RepAll.one (T := (tyInt .i64)) (x := 1) rfl).append ((RepAll.one (T := (tyInt .i64)) (x := 2) rfl).append ((RepAll.one (T := (tyInt .i64)) (x := 3) rfl).append ((RepAll.one (T := (tyInt .i64)) (x := 4) rfl).append ((RepAll.one (T := (tyInt .i64)) (x := 1) rfl).append ((RepAll.one (T := (tyInt .i64)) (x := 2) rfl).append ((RepAll.one (T := (tyInt .i64)) (x := 3) rfl).append ((RepAll.one (T := (tyInt .i64)) (x := 4) rfl).append (RepAll.one (T := (tyInt .i64)) (x := 5) rfl))))))))))))))))))); clear hM145
   obtain ⟨Z147, hle148, hM149, hs150⟩ := hM146.freeze 0 rfl
   replace hs25 := hs25.mono hle148
   replace hs112 := hs112.mono hle148
   replace hs118 := hs118.mono hle148
   replace hs144 := hs144.mono hle148
   replace hle0 := Fz.le.trans hle0 hle148
   have hM151 : Mem w.heap.size [] w Z [] Z147 wd138 := hM149; clear hM149
   refine cl hF137 7 #[.slice (some ⟨b93, 0, none⟩) ([0, 1, 2, 1, 2, 3, 4, 5, 6, 0, 1, 2, 3, 4, 1, 2, 3, 4, 5] : List Int).length 19, .slice (some ⟨b135, 0, none⟩) ([0, 1, 2, 1, 2, 3, 4, 5, 6, 0, 1, 2, 3, 4, 1, 2, 3, 4, 5] : List Int).length 19] (by rw [wanted_of hF137 (b := true) rfl rfl (by kernel_rfl) (by kernel_rfl)]; rfl) rfl (by kernel_rfl) (by kernel_rfl) ?_
   refine (sequal_walk ([0, 1, 2, 1, 2, 3, 4, 5, 6, 0, 1, 2, 3, 4, 1, 2, 3, 4, 5] : List Int) ([0, 1, 2, 1, 2, 3, 4, 5, 6, 0, 1, 2, 3, 4, 1, 2, 3, 4, 5] : List Int) (some ⟨b93, 0, none⟩) 19 (some ⟨b135, 0, none⟩) 19 _ _ hs144 hs150 hM151.fz hp132).mono ?_; rintro _ wd153 ⟨r152, rfl, hp157, hb⟩; refine ⟨_, rfl, ?_⟩; intro a154 hF155; have hM156 := hM151.call hb; clear hb hM151 hF137
   refine s1 hF155 27 (.bool r152) ?_; intro a158 hF159; clear hF155
   refine s1 hF159 0 (.bool r152) ?_; intro a160 hF161; clear hF159
   refine nlH (hQ100 _ _ ?_); clear hQ100 hQ100Q
   refine wp_ret ?_
   refine rt (fn := Try.f3) (v := .bool r152) hF161 (re1 hF161 (fn := Try.f3) rfl (by kernel_rfl)) ?_
   exact ⟨r152, rfl, hp157, hM156.below⟩
  · -- false
   have hp162 := hp125.2 hb131; clear hp125
   have hF163 := hF130.reval (d := 23) (c := []) (v := .bool r120) (by kernel_rfl) (.bool false) (by rw [hb131]); clear hF130
   have hF164 := hF163.setc (d := 24) (c := [0]) (v := .slice (some ⟨b93, 0, none⟩) 19 19) (by kernel_rfl) (v' := undef) (by rw [hb131]; kernel_rfl); clear hF163
   refine sk hF164 (b := false) rfl rfl (by kernel_rfl) (by kernel_rfl) rfl rfl (by kernel_rfl) ?_; intro a165 hF166; clear hF164
   refine sk hF166 (b := false) rfl rfl (by kernel_rfl) (by kernel_rfl) rfl rfl (by kernel_rfl) ?_; intro a167 hF168; clear hF166
   refine s1 hF168 27 (.bool false) ?_; intro a169 hF170; clear hF168
   refine s1 hF170 0 (.bool false) ?_; intro a171 hF172; clear hF170
   refine nlH (hQ100 _ _ ?_); clear hQ100 hQ100Q
   refine wp_ret ?_
   refine rt (fn := Try.f3) (v := .bool false) hF172 (re1 hF172 (fn := Try.f3) rfl (by kernel_rfl)) ?_
   exact ⟨false, rfl, hp162, hM124.below⟩

set_option maxRecDepth 100000 in
theorem hcheck_walk (u0 : Health)  (Z : Fz) (w : World)  (hZ : Z.on w) {K : Int → Prop} (hp : hcheck_vc u0 K) : Calls Try.prog 12 #[.agg #[.int .i64 u0.Sent, .int .i64 u0.Got, .int .i64 u0.Rest]] w fun e w' => ∃ r : Int, e = .returned (.int .i64 r) ∧ K r ∧ Below w.heap.size w w' := by
 refine enter0 Try.func12 rfl rfl (by kernel_rfl) ?_; intro a0 hF0; have hM0 := Mem.start w Z hZ; have hle0 := Fz.le.refl Z
 refine sqH ?_; intro hQ1Q hQ1
 refine sn hF0 hM0 (fun b => .pointer (some ⟨b, 0, none⟩)) [.int .i64 u0.Sent, .int .i64 u0.Got, .int .i64 u0.Rest] 28 (nog rfl _) rfl (by kernel_rfl) (by kernel_rfl) ?_; intro b2 a3 wd5 hF4 hM6; clear hF0 hM0
 refine s1 hF4 2 (.int .i64 0) ?_; intro a7 hF8; clear hF4
 refine nlH (hQ1 _ _ ?_); clear hQ1 hQ1Q
 refine wp_seq ?_
 refine sqH ?_; intro hQ9Q hQ9
 refine s1 hF8 3 (.pointer (some ⟨b2, 0, none⟩)) ?_; intro a10 hF11; clear hF8
 refine l1 hF11 hM6 4 0 0 (.int .i64 u0.Sent) rfl rfl ?_; intro a12 hF13; clear hF11
 refine s1 hF13 5 (.bool (decide (u0.Sent < 0))) ?_; intro a14 hF15; clear hF13
 refine s1 hF15 6 (.bool (decide (u0.Sent < 0))) ?_; intro a16 hF17; clear hF15
 have hF18 := hF17.atom ((decide (u0.Sent < 0)) == false) (by kernel_rfl); clear hF17
 refine gp hF18 7 0 [] (decide (u0.Sent < 0)) (.pointer (some ⟨b2, 0, none⟩)) rfl rfl ?_; intro a19 hF20; clear hF18
 refine gd hF20 (.int .i64 u0.Sent) (m := 0) (cj := []) (bj := decide (u0.Sent < 0)) rfl rfl (by kernel_rfl) rfl (by kernel_rfl) (by kernel_rfl) (by kernel_rfl) (fun hg => ld hF20 hM6 0 (g := [0]) (b := b2) (off := 0) (cs := [.int .i64 u0.Sent, .int .i64 u0.Got, .int .i64 u0.Rest]) (ty := 28) rfl (by kernel_rfl) (by kernel_rfl) (by kernel_rfl) (by kernel_rfl) hg) ?_; intro a21 hF22; clear hF20
 refine gp hF22 9 0 [] (decide (u0.Sent < 0)) (.bool (decide (u0.Sent > 256))) rfl rfl ?_; intro a23 hF24; clear hF22
 refine st hF24 (.bool ((decide (u0.Sent < 0)) || (decide (u0.Sent > 256)))) (nog rfl _) rfl (by kernel_rfl) (pk_or hF24 (g := []) (m := 0) (b := decide (u0.Sent < 0)) (v := decide (u0.Sent > 256)) rfl (by kernel_rfl) (by kernel_rfl) (by kernel_rfl) rfl) ?_; intro a25 hF26; clear hF24
 refine s1 hF26 11 (.bool ((decide (u0.Sent < 0)) || (decide (u0.Sent > 256)))) ?_; intro a27 hF28; clear hF26
 have hF29 := hF28.atom (((decide (u0.Sent < 0)) || (decide (u0.Sent > 256))) == false) (by kernel_rfl); clear hF28
 refine gp hF29 12 1 [] ((decide (u0.Sent < 0)) || (decide (u0.Sent > 256))) (.pointer (some ⟨b2, 1, none⟩)) rfl rfl ?_; intro a30 hF31; clear hF29
 refine gd hF31 (.int .i64 u0.Got) (m := 1) (cj := []) (bj := (decide (u0.Sent < 0)) || (decide (u0.Sent > 256))) rfl rfl (by kernel_rfl) rfl (by kernel_rfl) (by kernel_rfl) (by kernel_rfl) (fun hg => ld hF31 hM6 0 (g := [1]) (b := b2) (off := 1) (cs := [.int .i64 u0.Sent, .int .i64 u0.Got, .int .i64 u0.Rest]) (ty := 28) rfl (by kernel_rfl) (by kernel_rfl) (by kernel_rfl) (by kernel_rfl) hg) ?_; intro a32 hF33; clear hF31
 refine gp hF33 14 1 [] ((decide (u0.Sent < 0)) || (decide (u0.Sent > 256))) (.bool (decide (u0.Got < 0))) rfl rfl ?_; intro a34 hF35; clear hF33
 refine st hF35 (.bool (((decide (u0.Sent < 0)) || (decide (u0.Sent > 256))) || (decide (u0.Got < 0)))) (nog rfl _) rfl (by kernel_rfl) (pk_or hF35 (g := []) (m := 1) (b := (decide (u0.Sent < 0)) || (decide (u0.Sent > 256))) (v := decide (u0.Got < 0)) rfl (by kernel_rfl) (by kernel_rfl) (by kernel_rfl) rfl) ?_; intro a36 hF37; clear hF35
 refine s1 hF37 16 (.bool (((decide (u0.Sent < 0)) || (decide (u0.Sent > 256))) || (decide (u0.Got < 0)))) ?_; intro a38 hF39; clear hF37
 have hF40 := hF39.atom ((((decide (u0.Sent < 0)) || (decide (u0.Sent > 256))) || (decide (u0.Got < 0))) == false) (by kernel_rfl); clear hF39
 refine gp hF40 17 2 [] (((decide (u0.Sent < 0)) || (decide (u0.Sent > 256))) || (decide (u0.Got < 0))) (.pointer (some ⟨b2, 1, none⟩)) rfl rfl ?_; intro a41 hF42; clear hF40
 refine gd hF42 (.int .i64 u0.Got) (m := 2) (cj := []) (bj := ((decide (u0.Sent < 0)) || (decide (u0.Sent > 256))) || (decide (u0.Got < 0))) rfl rfl (by kernel_rfl) rfl (by kernel_rfl) (by kernel_rfl) (by kernel_rfl) (fun hg => ld hF42 hM6 0 (g := [2]) (b := b2) (off := 1) (cs := [.int .i64 u0.Sent, .int .i64 u0.Got, .int .i64 u0.Rest]) (ty := 28) rfl (by kernel_rfl) (by kernel_rfl) (by kernel_rfl) (by kernel_rfl) hg) ?_; intro a43 hF44; clear hF42
 refine gp hF44 19 2 [] (((decide (u0.Sent < 0)) || (decide (u0.Sent > 256))) || (decide (u0.Got < 0))) (.bool (decide (u0.Got > 255))) rfl rfl ?_; intro a45 hF46; clear hF44
 refine st hF46 (.bool ((((decide (u0.Sent < 0)) || (decide (u0.Sent > 256))) || (decide (u0.Got < 0))) || (decide (u0.Got > 255)))) (nog rfl _) rfl (by kernel_rfl) (pk_or hF46 (g := []) (m := 2) (b := ((decide (u0.Sent < 0)) || (decide (u0.Sent > 256))) || (decide (u0.Got < 0))) (v := decide (u0.Got > 255)) rfl (by kernel_rfl) (by kernel_rfl) (by kernel_rfl) rfl) ?_; intro a47 hF48; clear hF46
 refine s1 hF48 21 (.bool ((((decide (u0.Sent < 0)) || (decide (u0.Sent > 256))) || (decide (u0.Got < 0))) || (decide (u0.Got > 255)))) ?_; intro a49 hF50; clear hF48
 have hF51 := hF50.atom (((((decide (u0.Sent < 0)) || (decide (u0.Sent > 256))) || (decide (u0.Got < 0))) || (decide (u0.Got > 255))) == false) (by kernel_rfl); clear hF50
 refine gp hF51 22 3 [] ((((decide (u0.Sent < 0)) || (decide (u0.Sent > 256))) || (decide (u0.Got < 0))) || (decide (u0.Got > 255))) (.pointer (some ⟨b2, 2, none⟩)) rfl rfl ?_; intro a52 hF53; clear hF51
 refine gd hF53 (.int .i64 u0.Rest) (m := 3) (cj := []) (bj := (((decide (u0.Sent < 0)) || (decide (u0.Sent > 256))) || (decide (u0.Got < 0))) || (decide (u0.Got > 255))) rfl rfl (by kernel_rfl) rfl (by kernel_rfl) (by kernel_rfl) (by kernel_rfl) (fun hg => ld hF53 hM6 0 (g := [3]) (b := b2) (off := 2) (cs := [.int .i64 u0.Sent, .int .i64 u0.Got, .int .i64 u0.Rest]) (ty := 28) rfl (by kernel_rfl) (by kernel_rfl) (by kernel_rfl) (by kernel_rfl) hg) ?_; intro a54 hF55; clear hF53
 refine gp hF55 24 3 [] ((((decide (u0.Sent < 0)) || (decide (u0.Sent > 256))) || (decide (u0.Got < 0))) || (decide (u0.Got > 255))) (.bool (decide (u0.Rest < 0))) rfl rfl ?_; intro a56 hF57; clear hF55
 refine st hF57 (.bool (((((decide (u0.Sent < 0)) || (decide (u0.Sent > 256))) || (decide (u0.Got < 0))) || (decide (u0.Got > 255))) || (decide (u0.Rest < 0)))) (nog rfl _) rfl (by kernel_rfl) (pk_or hF57 (g := []) (m := 3) (b := (((decide (u0.Sent < 0)) || (decide (u0.Sent > 256))) || (decide (u0.Got < 0))) || (decide (u0.Got > 255))) (v := decide (u0.Rest < 0)) rfl (by kernel_rfl) (by kernel_rfl) (by kernel_rfl) rfl) ?_; intro a58 hF59; clear hF57
 refine s1 hF59 26 (.bool (((((decide (u0.Sent < 0)) || (decide (u0.Sent > 256))) || (decide (u0.Got < 0))) || (decide (u0.Got > 255))) || (decide (u0.Rest < 0)))) ?_; intro a60 hF61; clear hF59
 have hF62 := hF61.atom ((((((decide (u0.Sent < 0)) || (decide (u0.Sent > 256))) || (decide (u0.Got < 0))) || (decide (u0.Got > 255))) || (decide (u0.Rest < 0))) == false) (by kernel_rfl); clear hF61
 refine gp hF62 27 4 [] (((((decide (u0.Sent < 0)) || (decide (u0.Sent > 256))) || (decide (u0.Got < 0))) || (decide (u0.Got > 255))) || (decide (u0.Rest < 0))) (.pointer (some ⟨b2, 2, none⟩)) rfl rfl ?_; intro a63 hF64; clear hF62
 refine gd hF64 (.int .i64 u0.Rest) (m := 4) (cj := []) (bj := ((((decide (u0.Sent < 0)) || (decide (u0.Sent > 256))) || (decide (u0.Got < 0))) || (decide (u0.Got > 255))) || (decide (u0.Rest < 0))) rfl rfl (by kernel_rfl) rfl (by kernel_rfl) (by kernel_rfl) (by kernel_rfl) (fun hg => ld hF64 hM6 0 (g := [4]) (b := b2) (off := 2) (cs := [.int .i64 u0.Sent, .int .i64 u0.Got, .int .i64 u0.Rest]) (ty := 28) rfl (by kernel_rfl) (by kernel_rfl) (by kernel_rfl) (by kernel_rfl) hg) ?_; intro a65 hF66; clear hF64
 refine gp hF66 29 4 [] (((((decide (u0.Sent < 0)) || (decide (u0.Sent > 256))) || (decide (u0.Got < 0))) || (decide (u0.Got > 255))) || (decide (u0.Rest < 0))) (.bool (decide (u0.Rest > 127))) rfl rfl ?_; intro a67 hF68; clear hF66
 refine st hF68 (.bool ((((((decide (u0.Sent < 0)) || (decide (u0.Sent > 256))) || (decide (u0.Got < 0))) || (decide (u0.Got > 255))) || (decide (u0.Rest < 0))) || (decide (u0.Rest > 127)))) (nog rfl _) rfl (by kernel_rfl) (pk_or hF68 (g := []) (m := 4) (b := ((((decide (u0.Sent < 0)) || (decide (u0.Sent > 256))) || (decide (u0.Got < 0))) || (decide (u0.Got > 255))) || (decide (u0.Rest < 0))) (v := decide (u0.Rest > 127)) rfl (by kernel_rfl) (by kernel_rfl) (by kernel_rfl) rfl) ?_; intro a69 hF70; clear hF68
 refine s1 hF70 31 (.bool ((((((decide (u0.Sent < 0)) || (decide (u0.Sent > 256))) || (decide (u0.Got < 0))) || (decide (u0.Got > 255))) || (decide (u0.Rest < 0))) || (decide (u0.Rest > 127)))) ?_; intro a71 hF72; clear hF70
 have hF73 := hF72.atom (((((((decide (u0.Sent < 0)) || (decide (u0.Sent > 256))) || (decide (u0.Got < 0))) || (decide (u0.Got > 255))) || (decide (u0.Rest < 0))) || (decide (u0.Rest > 127))) == false) (by kernel_rfl); clear hF72
 refine gp hF73 32 5 [] ((((((decide (u0.Sent < 0)) || (decide (u0.Sent > 256))) || (decide (u0.Got < 0))) || (decide (u0.Got > 255))) || (decide (u0.Rest < 0))) || (decide (u0.Rest > 127))) (.pointer (some ⟨b2, 2, none⟩)) rfl rfl ?_; intro a74 hF75; clear hF73
 refine gd hF75 (.int .i64 u0.Rest) (m := 5) (cj := []) (bj := (((((decide (u0.Sent < 0)) || (decide (u0.Sent > 256))) || (decide (u0.Got < 0))) || (decide (u0.Got > 255))) || (decide (u0.Rest < 0))) || (decide (u0.Rest > 127))) rfl rfl (by kernel_rfl) rfl (by kernel_rfl) (by kernel_rfl) (by kernel_rfl) (fun hg => ld hF75 hM6 0 (g := [5]) (b := b2) (off := 2) (cs := [.int .i64 u0.Sent, .int .i64 u0.Got, .int .i64 u0.Rest]) (ty := 28) rfl (by kernel_rfl) (by kernel_rfl) (by kernel_rfl) (by kernel_rfl) hg) ?_; intro a76 hF77; clear hF75
 refine gp hF77 34 5 [] ((((((decide (u0.Sent < 0)) || (decide (u0.Sent > 256))) || (decide (u0.Got < 0))) || (decide (u0.Got > 255))) || (decide (u0.Rest < 0))) || (decide (u0.Rest > 127))) (.bool (decide (u0.Rest > 0))) rfl rfl ?_; intro a78 hF79; clear hF77
 refine gp hF79 35 5 [] ((((((decide (u0.Sent < 0)) || (decide (u0.Sent > 256))) || (decide (u0.Got < 0))) || (decide (u0.Got > 255))) || (decide (u0.Rest < 0))) || (decide (u0.Rest > 127))) (.bool (decide (u0.Rest > 0))) rfl rfl ?_; intro a80 hF81; clear hF79
 have hF82 := hF81.atom ((decide (u0.Rest > 0)) == true) (by kernel_rfl); clear hF81
 refine gp hF82 36 6 [5] (decide (u0.Rest > 0)) (.pointer (some ⟨b2, 0, none⟩)) rfl rfl ?_; intro a83 hF84; clear hF82
 refine gd hF84 (.int .i64 u0.Sent) (m := 6) (cj := [5]) (bj := decide (u0.Rest > 0)) rfl rfl (by kernel_rfl) rfl (by kernel_rfl) (by kernel_rfl) (by kernel_rfl) (fun hg => ld hF84 hM6 0 (g := [6, 5]) (b := b2) (off := 0) (cs := [.int .i64 u0.Sent, .int .i64 u0.Got, .int .i64 u0.Rest]) (ty := 28) rfl (by kernel_rfl) (by kernel_rfl) (by kernel_rfl) (by kernel_rfl) hg) ?_; intro a85 hF86; clear hF84
 refine gp hF86 38 6 [5] (decide (u0.Rest > 0)) (.bool (decide (u0.Sent < 256))) rfl rfl ?_; intro a87 hF88; clear hF86
 refine gd hF88 (.bool ((decide (u0.Rest > 0)) && (decide (u0.Sent < 256)))) (m := 5) (cj := []) (bj := (((((decide (u0.Sent < 0)) || (decide (u0.Sent > 256))) || (decide (u0.Got < 0))) || (decide (u0.Got > 255))) || (decide (u0.Rest < 0))) || (decide (u0.Rest > 127))) rfl rfl (by kernel_rfl) rfl (by kernel_rfl) (by kernel_rfl) (by kernel_rfl) (fun hg => pk_and hF88 (g := [5]) (m := 6) (b := decide (u0.Rest > 0)) (v := decide (u0.Sent < 256)) rfl (by kernel_rfl) (by kernel_rfl) (by kernel_rfl) hg) ?_; intro a89 hF90; clear hF88
 refine st hF90 (.bool (((((((decide (u0.Sent < 0)) || (decide (u0.Sent > 256))) || (decide (u0.Got < 0))) || (decide (u0.Got > 255))) || (decide (u0.Rest < 0))) || (decide (u0.Rest > 127))) || ((decide (u0.Rest > 0)) && (decide (u0.Sent < 256))))) (nog rfl _) rfl (by kernel_rfl) (pk_or hF90 (g := []) (m := 5) (b := (((((decide (u0.Sent < 0)) || (decide (u0.Sent > 256))) || (decide (u0.Got < 0))) || (decide (u0.Got > 255))) || (decide (u0.Rest < 0))) || (decide (u0.Rest > 127))) (v := (decide (u0.Rest > 0)) && (decide (u0.Sent < 256))) rfl (by kernel_rfl) (by kernel_rfl) (by kernel_rfl) rfl) ?_; intro a91 hF92; clear hF90
 refine nlH (hQ9 _ _ ?_); clear hQ9 hQ9Q
 refine cd hF92 (t := ((((((decide (u0.Sent < 0)) || (decide (u0.Sent > 256))) || (decide (u0.Got < 0))) || (decide (u0.Got > 255))) || (decide (u0.Rest < 0))) || (decide (u0.Rest > 127))) || ((decide (u0.Rest > 0)) && (decide (u0.Sent < 256)))) (by kernel_rfl) (fun hb93 => ?_) (fun hb93 => ?_)
 · -- yes
  have hp94 := hp.1 hb93; clear hp
  have hF95 : Fr 41 [] [] a91 := hF92.region (by kernel_rfl) (by kernel_rfl); clear hF92
  refine sqH ?_; intro hQ96Q hQ96
  refine s1 hF95 2 (.int .i64 3) ?_; intro a97 hF98; clear hF95
  refine nlH (hQ96 _ _ ?_); clear hQ96 hQ96Q
  refine wp_ret ?_
  refine thr ?_
  refine rt (fn := Try.f12) (v := .int .i64 3) hF98 (re1 hF98 (fn := Try.f12) rfl (by kernel_rfl)) ?_
  exact ⟨3, rfl, hp94, hM6.below⟩
 · -- no
  have hp99 := hp.2 hb93; clear hp
  refine wp_skip ?_
  refine thn ?_
  have hF100 : Fr 41 [] [] a91 := hF92.region (by kernel_rfl) (by kernel_rfl); clear hF92
  refine sqH ?_; intro hQ101Q hQ101
  refine s1 hF100 2 (.int .i64 0) ?_; intro a102 hF103; clear hF100
  refine nlH (hQ101 _ _ ?_); clear hQ101 hQ101Q
  refine wp_ret ?_
  refine rt (fn := Try.f12) (v := .int .i64 0) hF103 (re1 hF103 (fn := Try.f12) rfl (by kernel_rfl)) ?_
  exact ⟨0, rfl, hp99, hM6.below⟩
theorem hcheck_fun (u0 : Health)  (Z : Fz) (w : World)  (hZ : Z.on w) : Calls Try.prog 12 #[.agg #[.int .i64 u0.Sent, .int .i64 u0.Got, .int .i64 u0.Rest]] w fun e w' => e = .returned (.int .i64 (hcheck u0)) ∧ Below w.heap.size w w' :=
  (hcheck_walk u0  Z w  hZ (hcheck_ok u0)).mono fun _ _ ⟨r, he, hk, hb⟩ => ⟨by subst hk; exact he, hb⟩

set_option maxRecDepth 100000 in
theorem hstate_walk (u0 : Health)  (Z : Fz) (w : World)  (hZ : Z.on w) {K : Int → Prop} (hp : hstate_vc u0 K) : Calls Try.prog 18 #[.agg #[.int .i64 u0.Sent, .int .i64 u0.Got, .int .i64 u0.Rest]] w fun e w' => ∃ r : Int, e = .returned (.int .i64 r) ∧ K r ∧ Below w.heap.size w w' := by
 refine enter0 Try.func18 rfl rfl (by kernel_rfl) ?_; intro a0 hF0; have hM0 := Mem.start w Z hZ; have hle0 := Fz.le.refl Z
 refine sqH ?_; intro hQ1Q hQ1
 refine sn hF0 hM0 (fun b => .pointer (some ⟨b, 0, none⟩)) [.int .i64 u0.Sent, .int .i64 u0.Got, .int .i64 u0.Rest] 28 (nog rfl _) rfl (by kernel_rfl) (by kernel_rfl) ?_; intro b2 a3 wd5 hF4 hM6; clear hF0 hM0
 refine s1 hF4 2 (.int .i64 0) ?_; intro a7 hF8; clear hF4
 refine nlH (hQ1 _ _ ?_); clear hQ1 hQ1Q
 refine wp_seq ?_
 refine wp_block ?_
 refine sqH ?_; intro hQ9Q hQ9
 refine s1 hF8 4 (.pointer (some ⟨b2, 0, none⟩)) ?_; intro a10 hF11; clear hF8
 refine l1 hF11 hM6 5 0 0 (.int .i64 u0.Sent) rfl rfl ?_; intro a12 hF13; clear hF11
 refine s1 hF13 6 (.bool (decide (u0.Sent > 255))) ?_; intro a14 hF15; clear hF13
 refine s1 hF15 3 (.bool (decide (u0.Sent > 255))) ?_; intro a16 hF17; clear hF15
 refine nlH (hQ9 _ _ ?_); clear hQ9 hQ9Q
 refine cd hF17 (t := decide (u0.Sent > 255)) (by kernel_rfl) (fun hb18 => ?_) (fun hb18 => ?_)
 · -- yes
  have hp19 := hp.1 hb18; clear hp
  refine sqH ?_; intro hQ20Q hQ20
  refine s1 hF17 2 (.int .i64 2) ?_; intro a21 hF22; clear hF17
  refine nlH (hQ20 _ _ ?_); clear hQ20 hQ20Q
  refine wp_ret ?_
  refine ibr ?_
  refine thr ?_
  refine rt (fn := Try.f18) (v := .int .i64 2) hF22 (re1 hF22 (fn := Try.f18) rfl (by kernel_rfl)) ?_
  exact ⟨2, rfl, hp19, hM6.below⟩
 · -- no
  have hp23 := hp.2 hb18; clear hp
  refine sqH ?_; intro hQ24Q hQ24
  refine s1 hF17 8 (.pointer (some ⟨b2, 0, none⟩)) ?_; intro a25 hF26; clear hF17
  refine l1 hF26 hM6 9 0 0 (.int .i64 u0.Sent) rfl rfl ?_; intro a27 hF28; clear hF26
  refine s1 hF28 10 (.bool (decide (u0.Sent > 127))) ?_; intro a29 hF30; clear hF28
  refine s1 hF30 11 (.bool (decide (u0.Sent > 127))) ?_; intro a31 hF32; clear hF30
  have hF33 := hF32.atom ((decide (u0.Sent > 127)) == false) (by kernel_rfl); clear hF32
  refine gp hF33 12 0 [] (decide (u0.Sent > 127)) (.pointer (some ⟨b2, 1, none⟩)) rfl rfl ?_; intro a34 hF35; clear hF33
  refine gd hF35 (.int .i64 u0.Got) (m := 0) (cj := []) (bj := decide (u0.Sent > 127)) rfl rfl (by kernel_rfl) rfl (by kernel_rfl) (by kernel_rfl) (by kernel_rfl) (fun hg => ld hF35 hM6 0 (g := [0]) (b := b2) (off := 1) (cs := [.int .i64 u0.Sent, .int .i64 u0.Got, .int .i64 u0.Rest]) (ty := 28) rfl (by kernel_rfl) (by kernel_rfl) (by kernel_rfl) (by kernel_rfl) hg) ?_; intro a36 hF37; clear hF35
  refine gp hF37 14 0 [] (decide (u0.Sent > 127)) (.bool (decide (u0.Got > 127))) rfl rfl ?_; intro a38 hF39; clear hF37
  refine st hF39 (.bool ((decide (u0.Sent > 127)) || (decide (u0.Got > 127)))) (nog rfl _) rfl (by kernel_rfl) (pk_or hF39 (g := []) (m := 0) (b := decide (u0.Sent > 127)) (v := decide (u0.Got > 127)) rfl (by kernel_rfl) (by kernel_rfl) (by kernel_rfl) rfl) ?_; intro a40 hF41; clear hF39
  refine s1 hF41 7 (.bool ((decide (u0.Sent > 127)) || (decide (u0.Got > 127)))) ?_; intro a42 hF43; clear hF41
  refine nlH (hQ24 _ _ ?_); clear hQ24 hQ24Q
  refine cd hF43 (t := (decide (u0.Sent > 127)) || (decide (u0.Got > 127))) (by kernel_rfl) (fun hb44 => ?_) (fun hb44 => ?_)
  · -- yes
   have hp45 := hp23.1 hb44; clear hp23
   have hF46 : Fr 16 [] [] a42 := hF43.region (by kernel_rfl) (by kernel_rfl); clear hF43
   refine sqH ?_; intro hQ47Q hQ47
   refine s1 hF46 2 (.int .i64 1) ?_; intro a48 hF49; clear hF46
   refine nlH (hQ47 _ _ ?_); clear hQ47 hQ47Q
   refine wp_ret ?_
   refine ibr ?_
   refine thr ?_
   refine rt (fn := Try.f18) (v := .int .i64 1) hF49 (re1 hF49 (fn := Try.f18) rfl (by kernel_rfl)) ?_
   exact ⟨1, rfl, hp45, hM6.below⟩
  · -- no
   have hp50 := hp23.2 hb44; clear hp23
   refine wp_skip ?_
   refine ibn ?_
   refine thn ?_
   have hF51 : Fr 16 [] [] a42 := hF43.region (by kernel_rfl) (by kernel_rfl); clear hF43
   refine sqH ?_; intro hQ52Q hQ52
   refine s1 hF51 2 (.int .i64 0) ?_; intro a53 hF54; clear hF51
   refine nlH (hQ52 _ _ ?_); clear hQ52 hQ52Q
   refine wp_ret ?_
   refine rt (fn := Try.f18) (v := .int .i64 0) hF54 (re1 hF54 (fn := Try.f18) rfl (by kernel_rfl)) ?_
   exact ⟨0, rfl, hp50, hM6.below⟩
theorem hstate_fun (u0 : Health)  (Z : Fz) (w : World)  (hZ : Z.on w) : Calls Try.prog 18 #[.agg #[.int .i64 u0.Sent, .int .i64 u0.Got, .int .i64 u0.Rest]] w fun e w' => e = .returned (.int .i64 (hstate u0)) ∧ Below w.heap.size w w' :=
  (hstate_walk u0  Z w  hZ (hstate_ok u0)).mono fun _ _ ⟨r, he, hk, hb⟩ => ⟨by subst hk; exact he, hb⟩

set_option maxRecDepth 100000 in
theorem hState_walk (u0 : Health)  (Z : Fz) (w : World)  (hZ : Z.on w) {K : (Int × Int) → Prop} (hp : hState_vc u0 K) : Calls Try.prog 9 #[.agg #[.int .i64 u0.Sent, .int .i64 u0.Got, .int .i64 u0.Rest]] w fun e w' => ∃ r : Int × Int, e = .returned (.tuple #[.int .i64 r.1, .int .i64 r.2]) ∧ K r ∧ Below w.heap.size w w' := by
 refine enter0 Try.func9 rfl rfl (by kernel_rfl) ?_; intro a0 hF0; have hM0 := Mem.start w Z hZ; have hle0 := Fz.le.refl Z
 refine sqH ?_; intro hQ1Q hQ1
 refine sn hF0 hM0 (fun b => .pointer (some ⟨b, 0, none⟩)) [.int .i64 u0.Sent, .int .i64 u0.Got, .int .i64 u0.Rest] 28 (nog rfl _) rfl (by kernel_rfl) (by kernel_rfl) ?_; intro b2 a3 wd5 hF4 hM6; clear hF0 hM0
 refine s1 hF4 2 (.int .i64 0) ?_; intro a7 hF8; clear hF4
 refine s1 hF8 3 (.int .i64 0) ?_; intro a9 hF10; clear hF8
 refine nlH (hQ1 _ _ ?_); clear hQ1 hQ1Q
 refine wp_seq ?_
 refine sqH ?_; intro hQ11Q hQ11
 refine l2 hF10 hM6 5 0 0 3 [.int .i64 u0.Sent, .int .i64 u0.Got, .int .i64 u0.Rest] rfl rfl ?_; intro a12 hF13; clear hF10
 refine fcl hF13 hM6 (.int .i64 (hcheck u0)) 12 #[.agg #[.int .i64 u0.Sent, .int .i64 u0.Got, .int .i64 u0.Rest]] (nog rfl _) rfl (by kernel_rfl) (fun _ => by kernel_rfl) (hcheck_fun u0 _ _ hM6.fz) ?_; intro a14 wd16 hF15 hM17; clear hF13 hM6
 refine s1 hF15 4 (.int .i64 (hcheck u0)) ?_; intro a18 hF19; clear hF15
 refine nlH (hQ11 _ _ ?_); clear hQ11 hQ11Q
 refine sqH ?_; intro hQ20Q hQ20
 refine s1 hF19 7 (.int .i64 (hcheck u0)) ?_; intro a21 hF22; clear hF19
 refine s1 hF22 8 (.bool ((hcheck u0) != 0)) ?_; intro a23 hF24; clear hF22
 refine nlH (hQ20 _ _ ?_); clear hQ20 hQ20Q
 refine cd hF24 (t := (hcheck u0) != 0) (by kernel_rfl) (fun hb25 => ?_) (fun hb25 => ?_)
 · -- yes
  have hp26 := hp.1 hb25; clear hp
  refine sqH ?_; intro hQ27Q hQ27
  refine s1 hF24 9 (.int .i64 (hcheck u0)) ?_; intro a28 hF29; clear hF24
  refine s1 hF29 2 (.int .i64 0) ?_; intro a30 hF31; clear hF29
  refine s1 hF31 3 (.int .i64 (hcheck u0)) ?_; intro a32 hF33; clear hF31
  refine nlH (hQ27 _ _ ?_); clear hQ27 hQ27Q
  refine wp_ret ?_
  refine thr ?_
  refine rt (fn := Try.f9) (v := .tuple #[.int .i64 0, .int .i64 (hcheck u0)]) hF33 (re2 hF33 (fn := Try.f9) rfl (by kernel_rfl) (by kernel_rfl)) ?_
  exact ⟨(0, (hcheck u0)), rfl, hp26, hM17.below⟩
 · -- no
  have hp34 := hp.2 hb25; clear hp
  refine wp_skip ?_
  refine thn ?_
  refine sqH ?_; intro hQ35Q hQ35
  refine l2 hF24 hM17 10 0 0 3 [.int .i64 u0.Sent, .int .i64 u0.Got, .int .i64 u0.Rest] rfl rfl ?_; intro a36 hF37; clear hF24
  refine fcl hF37 hM17 (.int .i64 (hstate u0)) 18 #[.agg #[.int .i64 u0.Sent, .int .i64 u0.Got, .int .i64 u0.Rest]] (nog rfl _) rfl (by kernel_rfl) (fun _ => by kernel_rfl) (hstate_fun u0 _ _ hM17.fz) ?_; intro a38 wd40 hF39 hM41; clear hF37 hM17
  refine s1 hF39 2 (.int .i64 (hstate u0)) ?_; intro a42 hF43; clear hF39
  refine s1 hF43 3 (.int .i64 0) ?_; intro a44 hF45; clear hF43
  refine nlH (hQ35 _ _ ?_); clear hQ35 hQ35Q
  refine wp_ret ?_
  refine rt (fn := Try.f9) (v := .tuple #[.int .i64 (hstate u0), .int .i64 0]) hF45 (re2 hF45 (fn := Try.f9) rfl (by kernel_rfl) (by kernel_rfl)) ?_
  exact ⟨((hstate u0), 0), rfl, hp34, hM41.below⟩
theorem hState_fun (u0 : Health)  (Z : Fz) (w : World)  (hZ : Z.on w) : Calls Try.prog 9 #[.agg #[.int .i64 u0.Sent, .int .i64 u0.Got, .int .i64 u0.Rest]] w fun e w' => e = .returned (.tuple #[.int .i64 ((hState u0).1), .int .i64 ((hState u0).2)]) ∧ Below w.heap.size w w' :=
  (hState_walk u0  Z w  hZ (hState_ok u0)).mono fun _ _ ⟨r, he, hk, hb⟩ => ⟨by subst hk; exact he, hb⟩

set_option maxRecDepth 100000 in
theorem hchange_walk (u0 : Health) (u1 : Int)  (Z : Fz) (w : World)  (hZ : Z.on w) {K : (Health × Int) → Prop} (hp : hchange_vc u0 u1 K) : Calls Try.prog 17 #[.agg #[.int .i64 u0.Sent, .int .i64 u0.Got, .int .i64 u0.Rest], .int .i64 u1] w fun e w' => ∃ r : Health × Int, e = .returned (.tuple #[.agg #[.int .i64 r.1.Sent, .int .i64 r.1.Got, .int .i64 r.1.Rest], .int .i64 r.2]) ∧ K r ∧ Below w.heap.size w w' := by
 refine enter0 Try.func17 rfl rfl (by kernel_rfl) ?_; intro a0 hF0; have hM0 := Mem.start w Z hZ; have hle0 := Fz.le.refl Z
 refine sqH ?_; intro hQ1Q hQ1
 refine sn hF0 hM0 (fun b => .pointer (some ⟨b, 0, none⟩)) [.int .i64 u0.Sent, .int .i64 u0.Got, .int .i64 u0.Rest] 28 (nog rfl _) rfl (by kernel_rfl) (by kernel_rfl) ?_; intro b2 a3 wd5 hF4 hM6; clear hF0 hM0
 refine sn hF4 hM6 (fun b => .pointer (some ⟨b, 0, none⟩)) [.int .i64 0, .int .i64 0, .int .i64 0] 28 (nog rfl _) rfl (by kernel_rfl) (by kernel_rfl) ?_; intro b7 a8 wd10 hF9 hM11; clear hF4 hM6
 refine s1 hF9 5 (.int .i64 0) ?_; intro a12 hF13; clear hF9
 refine nlH (hQ1 _ _ ?_); clear hQ1 hQ1Q
 refine wp_seq ?_
 refine sqH ?_; intro hQ14Q hQ14
 refine l2 hF13 hM11 7 1 0 3 [.int .i64 u0.Sent, .int .i64 u0.Got, .int .i64 u0.Rest] rfl rfl ?_; intro a15 hF16; clear hF13
 refine fcl hF16 hM11 (.int .i64 (hstate u0)) 18 #[.agg #[.int .i64 u0.Sent, .int .i64 u0.Got, .int .i64 u0.Rest]] (nog rfl _) rfl (by kernel_rfl) (fun _ => by kernel_rfl) (hstate_fun u0 _ _ hM11.fz) ?_; intro a17 wd19 hF18 hM20; clear hF16 hM11
 refine s1 hF18 9 (.bool ((hstate u0) == 2)) ?_; intro a21 hF22; clear hF18
 refine nlH (hQ14 _ _ ?_); clear hQ14 hQ14Q
 refine cd hF22 (t := (hstate u0) == 2) (by kernel_rfl) (fun hb23 => ?_) (fun hb23 => ?_)
 · -- yes
  have hp24 := hp.1 hb23; clear hp
  refine wp_seq ?_
  refine sqH ?_; intro hQ25Q hQ25
  refine s1 hF22 10 (.int .i64 u1) ?_; intro a26 hF27; clear hF22
  refine nlH (hQ25 _ _ ?_); clear hQ25 hQ25Q
  refine wp_block ?_
  refine sqH ?_; intro hQ28Q hQ28
  refine s1 hF27 12 (.bool (u1 == 6)) ?_; intro a29 hF30; clear hF27
  refine s1 hF30 11 (.bool (u1 == 6)) ?_; intro a31 hF32; clear hF30
  refine nlH (hQ28 _ _ ?_); clear hQ28 hQ28Q
  refine cd hF32 (t := u1 == 6) (by kernel_rfl) (fun hb33 => ?_) (fun hb33 => ?_)
  · -- yes
   have hp34 := hp24.1 hb33; clear hp24
   refine wp_seq ?_
   refine sqH ?_; intro hQ35Q hQ35
   refine s1 hF32 13 (.pointer (some ⟨b2, 2, none⟩)) ?_; intro a36 hF37; clear hF32
   refine l1 hF37 hM20 14 1 2 (.int .i64 u0.Rest) rfl rfl ?_; intro a38 hF39; clear hF37
   refine s1 hF39 15 (.int .i64 (w64 (u0.Rest + 1))) ?_; intro a40 hF41; clear hF39
   refine s1 hF41 16 (.pointer (some ⟨b2, 2, none⟩)) ?_; intro a42 hF43; clear hF41
   refine sr hF43 hM20 1 [.int .i64 u0.Sent, .int .i64 u0.Got, .int .i64 (w64 (u0.Rest + 1))] (b := b2) (off := 2) (cs := [.int .i64 u0.Sent, .int .i64 u0.Got, .int .i64 u0.Rest]) (ty := 28) (u := .int .i64 (w64 (u0.Rest + 1))) (nog rfl _) rfl rfl (by kernel_rfl) (by kernel_rfl) (by kernel_rfl) (by kernel_rfl) (by kernel_rfl) (by kernel_rfl) (by kernel_rfl) ?_; intro wd44 hM45; clear hM20
   have hM46 : Mem w.heap.size [] w Z [.row b7 [.int .i64 0, .int .i64 0, .int .i64 0] 28, .row b2 [.int .i64 u0.Sent, .int .i64 u0.Got, .int .i64 (w64 (u0.Rest + 1))] 28] Z wd44 := hM45; clear hM45
   refine nlH (hQ35 _ _ ?_); clear hQ35 hQ35Q
   refine sqH ?_; intro hQ47Q hQ47
   refine s1 hF43 17 (.pointer (some ⟨b2, 2, none⟩)) ?_; intro a48 hF49; clear hF43
   refine l1 hF49 hM46 18 1 2 (.int .i64 (w64 (u0.Rest + 1))) rfl rfl ?_; intro a50 hF51; clear hF49
   refine s1 hF51 19 (.bool ((w64 (u0.Rest + 1)) == 128)) ?_; intro a52 hF53; clear hF51
   refine nlH (hQ47 _ _ ?_); clear hQ47 hQ47Q
   refine cd hF53 (t := (w64 (u0.Rest + 1)) == 128) (by kernel_rfl) (fun hb54 => ?_) (fun hb54 => ?_)
   · -- yes
    have hp55 := hp34.1 hb54; clear hp34
    have hF56 : Fr 69 [] [⟨4, [], .pointer (some ⟨b7, 0, none⟩)⟩] a52 := hF53.region (by kernel_rfl) (by kernel_rfl); clear hF53
    refine sqH ?_; intro hQ57Q hQ57
    refine s1 hF56 20 (.agg #[.int .i64 0, .int .i64 0, .int .i64 0]) ?_; intro a58 hF59; clear hF56
    refine sr hF59 hM46 0 [.int .i64 0, .int .i64 0, .int .i64 0] (b := b7) (off := 0) (cs := [.int .i64 0, .int .i64 0, .int .i64 0]) (ty := 28) (u := .agg #[.int .i64 0, .int .i64 0, .int .i64 0]) (nog rfl _) rfl rfl (by kernel_rfl) (by kernel_rfl) (by kernel_rfl) (by kernel_rfl) (by kernel_rfl) (by kernel_rfl) (by kernel_rfl) ?_; intro wd60 hM61; clear hM46
    refine s1 hF59 5 (.int .i64 0) ?_; intro a62 hF63; clear hF59
    have hM64 : Mem w.heap.size [] w Z [.row b7 [.int .i64 0, .int .i64 0, .int .i64 0] 28, .row b2 [.int .i64 u0.Sent, .int .i64 u0.Got, .int .i64 (w64 (u0.Rest + 1))] 28] Z wd60 := hM61; clear hM61
    refine nlH (hQ57 _ _ ?_); clear hQ57 hQ57Q
    refine wp_ret ?_
    refine thr ?_
    refine ibr ?_
    refine thr ?_
    refine thr ?_
    refine rt (fn := Try.f17) (v := .tuple #[.agg #[.int .i64 0, .int .i64 0, .int .i64 0], .int .i64 0]) hF63 (re2c hF63 (fn := Try.f17) rfl (ad := ⟨b7, 0, none⟩) (by kernel_rfl) (loadVar_run hM64 0 (b := b7) (k := 3) (vs := [.int .i64 0, .int .i64 0, .int .i64 0]) (ty := 28) rfl (by kernel_rfl) (by kernel_rfl)) (by kernel_rfl)) ?_
    exact ⟨((⟨0, 0, 0⟩ : Health), 0), rfl, hp55, hM64.below⟩
   · -- no
    have hp65 := hp34.2 hb54; clear hp34
    refine wp_skip ?_
    refine thn ?_
    have hF66 : Fr 69 [] [⟨2, [], .pointer (some ⟨b2, 0, none⟩)⟩, ⟨4, [], .pointer (some ⟨b7, 0, none⟩)⟩] a52 := hF53.region (by kernel_rfl) (by kernel_rfl); clear hF53
    refine sqH ?_; intro hQ67Q hQ67
    refine l2 hF66 hM46 21 1 0 3 [.int .i64 u0.Sent, .int .i64 u0.Got, .int .i64 (w64 (u0.Rest + 1))] rfl rfl ?_; intro a68 hF69; clear hF66
    refine sr hF69 hM46 0 [.int .i64 u0.Sent, .int .i64 u0.Got, .int .i64 (w64 (u0.Rest + 1))] (b := b7) (off := 0) (cs := [.int .i64 0, .int .i64 0, .int .i64 0]) (ty := 28) (u := .agg #[.int .i64 u0.Sent, .int .i64 u0.Got, .int .i64 (w64 (u0.Rest + 1))]) (nog rfl _) rfl rfl (by kernel_rfl) (by kernel_rfl) (by kernel_rfl) (by kernel_rfl) (by kernel_rfl) (by kernel_rfl) (by kernel_rfl) ?_; intro wd70 hM71; clear hM46
    refine s1 hF69 5 (.int .i64 0) ?_; intro a72 hF73; clear hF69
    have hM74 : Mem w.heap.size [] w Z [.row b7 [.int .i64 u0.Sent, .int .i64 u0.Got, .int .i64 (w64 (u0.Rest + 1))] 28, .row b2 [.int .i64 u0.Sent, .int .i64 u0.Got, .int .i64 (w64 (u0.Rest + 1))] 28] Z wd70 := hM71; clear hM71
    refine nlH (hQ67 _ _ ?_); clear hQ67 hQ67Q
    refine wp_ret ?_
    refine ibr ?_
    refine thr ?_
    refine thr ?_
    refine rt (fn := Try.f17) (v := .tuple #[.agg #[.int .i64 u0.Sent, .int .i64 u0.Got, .int .i64 (w64 (u0.Rest + 1))], .int .i64 0]) hF73 (re2c hF73 (fn := Try.f17) rfl (ad := ⟨b7, 0, none⟩) (by kernel_rfl) (loadVar_run hM74 0 (b := b7) (k := 3) (vs := [.int .i64 u0.Sent, .int .i64 u0.Got, .int .i64 (w64 (u0.Rest + 1))]) (ty := 28) rfl (by kernel_rfl) (by kernel_rfl)) (by kernel_rfl)) ?_
    exact ⟨((⟨u0.Sent, u0.Got, w64 (u0.Rest + 1)⟩ : Health), 0), rfl, hp65, hM74.below⟩
  · -- no
   have hp75 := hp24.2 hb33; clear hp24
   refine wp_seq ?_
   refine sqH ?_; intro hQ76Q hQ76
   refine s1 hF32 23 (.bool (u1 == 1)) ?_; intro a77 hF78; clear hF32
   refine s1 hF78 22 (.bool (u1 == 1)) ?_; intro a79 hF80; clear hF78
   refine nlH (hQ76 _ _ ?_); clear hQ76 hQ76Q
   refine cd hF80 (t := u1 == 1) (by kernel_rfl) (fun hb81 => ?_) (fun hb81 => ?_)
   · -- yes
    have hp82 := hp75.1 hb81; clear hp75
    refine wp_skip ?_
    refine thn ?_
    refine cd hF80 (t := u1 == 1) (by kernel_rfl) (fun _ => ?_) (fun h => Bool.noConfusion (hb81.symm.trans h))
    refine sqH ?_; intro hQ84Q hQ84
    refine l2 hF80 hM20 28 1 0 3 [.int .i64 u0.Sent, .int .i64 u0.Got, .int .i64 u0.Rest] rfl rfl ?_; intro a85 hF86; clear hF80
    refine sr hF86 hM20 0 [.int .i64 u0.Sent, .int .i64 u0.Got, .int .i64 u0.Rest] (b := b7) (off := 0) (cs := [.int .i64 0, .int .i64 0, .int .i64 0]) (ty := 28) (u := .agg #[.int .i64 u0.Sent, .int .i64 u0.Got, .int .i64 u0.Rest]) (nog rfl _) rfl rfl (by kernel_rfl) (by kernel_rfl) (by kernel_rfl) (by kernel_rfl) (by kernel_rfl) (by kernel_rfl) (by kernel_rfl) ?_; intro wd87 hM88; clear hM20
    refine s1 hF86 5 (.int .i64 0) ?_; intro a89 hF90; clear hF86
    have hM91 : Mem w.heap.size [] w Z [.row b7 [.int .i64 u0.Sent, .int .i64 u0.Got, .int .i64 u0.Rest] 28, .row b2 [.int .i64 u0.Sent, .int .i64 u0.Got, .int .i64 u0.Rest] 28] Z wd87 := hM88; clear hM88
    refine nlH (hQ84 _ _ ?_); clear hQ84 hQ84Q
    refine wp_ret ?_
    refine ibr ?_
    refine thr ?_
    refine thr ?_
    refine rt (fn := Try.f17) (v := .tuple #[.agg #[.int .i64 u0.Sent, .int .i64 u0.Got, .int .i64 u0.Rest], .int .i64 0]) hF90 (re2c hF90 (fn := Try.f17) rfl (ad := ⟨b7, 0, none⟩) (by kernel_rfl) (loadVar_run hM91 0 (b := b7) (k := 3) (vs := [.int .i64 u0.Sent, .int .i64 u0.Got, .int .i64 u0.Rest]) (ty := 28) rfl (by kernel_rfl) (by kernel_rfl)) (by kernel_rfl)) ?_
    exact ⟨(u0, 0), rfl, hp82, hM91.below⟩
   · -- no
    have hp92 := hp75.2 hb81; clear hp75
    refine sqH ?_; intro hQ93Q hQ93
    refine s1 hF80 24 (.bool (u1 == 2)) ?_; intro a94 hF95; clear hF80
    refine s1 hF95 22 (.bool (u1 == 2)) ?_; intro a96 hF97; clear hF95
    refine nlH (hQ93 _ _ ?_); clear hQ93 hQ93Q
    refine cd hF97 (t := u1 == 2) (by kernel_rfl) (fun hb98 => ?_) (fun hb98 => ?_)
    · -- yes
     have hp99 := hp92.1 hb98; clear hp92
     refine wp_skip ?_
     refine thn ?_
     refine cd hF97 (t := u1 == 2) (by kernel_rfl) (fun _ => ?_) (fun h => Bool.noConfusion (hb98.symm.trans h))
     refine sqH ?_; intro hQ101Q hQ101
     refine l2 hF97 hM20 28 1 0 3 [.int .i64 u0.Sent, .int .i64 u0.Got, .int .i64 u0.Rest] rfl rfl ?_; intro a102 hF103; clear hF97
     refine sr hF103 hM20 0 [.int .i64 u0.Sent, .int .i64 u0.Got, .int .i64 u0.Rest] (b := b7) (off := 0) (cs := [.int .i64 0, .int .i64 0, .int .i64 0]) (ty := 28) (u := .agg #[.int .i64 u0.Sent, .int .i64 u0.Got, .int .i64 u0.Rest]) (nog rfl _) rfl rfl (by kernel_rfl) (by kernel_rfl) (by kernel_rfl) (by kernel_rfl) (by kernel_rfl) (by kernel_rfl) (by kernel_rfl) ?_; intro wd104 hM105; clear hM20
     refine s1 hF103 5 (.int .i64 0) ?_; intro a106 hF107; clear hF103
     have hM108 : Mem w.heap.size [] w Z [.row b7 [.int .i64 u0.Sent, .int .i64 u0.Got, .int .i64 u0.Rest] 28, .row b2 [.int .i64 u0.Sent, .int .i64 u0.Got, .int .i64 u0.Rest] 28] Z wd104 := hM105; clear hM105
     refine nlH (hQ101 _ _ ?_); clear hQ101 hQ101Q
     refine wp_ret ?_
     refine ibr ?_
     refine thr ?_
     refine thr ?_
     refine rt (fn := Try.f17) (v := .tuple #[.agg #[.int .i64 u0.Sent, .int .i64 u0.Got, .int .i64 u0.Rest], .int .i64 0]) hF107 (re2c hF107 (fn := Try.f17) rfl (ad := ⟨b7, 0, none⟩) (by kernel_rfl) (loadVar_run hM108 0 (b := b7) (k := 3) (vs := [.int .i64 u0.Sent, .int .i64 u0.Got, .int .i64 u0.Rest]) (ty := 28) rfl (by kernel_rfl) (by kernel_rfl)) (by kernel_rfl)) ?_
     exact ⟨(u0, 0), rfl, hp99, hM108.below⟩
    · -- no
     have hp109 := hp92.2 hb98; clear hp92
     refine sqH ?_; intro hQ110Q hQ110
     refine s1 hF97 25 (.bool (u1 == 3)) ?_; intro a111 hF112; clear hF97
     refine s1 hF112 22 (.bool (u1 == 3)) ?_; intro a113 hF114; clear hF112
     refine nlH (hQ110 _ _ ?_); clear hQ110 hQ110Q
     refine cd hF114 (t := u1 == 3) (by kernel_rfl) (fun hb115 => ?_) (fun hb115 => ?_)
     · -- yes
      have hp116 := hp109.1 hb115; clear hp109
      refine wp_skip ?_
      refine thn ?_
      refine cd hF114 (t := u1 == 3) (by kernel_rfl) (fun _ => ?_) (fun h => Bool.noConfusion (hb115.symm.trans h))
      have hF118 : Fr 69 [] [⟨2, [], .pointer (some ⟨b2, 0, none⟩)⟩, ⟨4, [], .pointer (some ⟨b7, 0, none⟩)⟩] a113 := hF114.region (by kernel_rfl) (by kernel_rfl); clear hF114
      refine sqH ?_; intro hQ119Q hQ119
      refine l2 hF118 hM20 28 1 0 3 [.int .i64 u0.Sent, .int .i64 u0.Got, .int .i64 u0.Rest] rfl rfl ?_; intro a120 hF121; clear hF118
      refine sr hF121 hM20 0 [.int .i64 u0.Sent, .int .i64 u0.Got, .int .i64 u0.Rest] (b := b7) (off := 0) (cs := [.int .i64 0, .int .i64 0, .int .i64 0]) (ty := 28) (u := .agg #[.int .i64 u0.Sent, .int .i64 u0.Got, .int .i64 u0.Rest]) (nog rfl _) rfl rfl (by kernel_rfl) (by kernel_rfl) (by kernel_rfl) (by kernel_rfl) (by kernel_rfl) (by kernel_rfl) (by kernel_rfl) ?_; intro wd122 hM123; clear hM20
      refine s1 hF121 5 (.int .i64 0) ?_; intro a124 hF125; clear hF121
      have hM126 : Mem w.heap.size [] w Z [.row b7 [.int .i64 u0.Sent, .int .i64 u0.Got, .int .i64 u0.Rest] 28, .row b2 [.int .i64 u0.Sent, .int .i64 u0.Got, .int .i64 u0.Rest] 28] Z wd122 := hM123; clear hM123
      refine nlH (hQ119 _ _ ?_); clear hQ119 hQ119Q
      refine wp_ret ?_
      refine ibr ?_
      refine thr ?_
      refine thr ?_
      refine rt (fn := Try.f17) (v := .tuple #[.agg #[.int .i64 u0.Sent, .int .i64 u0.Got, .int .i64 u0.Rest], .int .i64 0]) hF125 (re2c hF125 (fn := Try.f17) rfl (ad := ⟨b7, 0, none⟩) (by kernel_rfl) (loadVar_run hM126 0 (b := b7) (k := 3) (vs := [.int .i64 u0.Sent, .int .i64 u0.Got, .int .i64 u0.Rest]) (ty := 28) rfl (by kernel_rfl) (by kernel_rfl)) (by kernel_rfl)) ?_
      exact ⟨(u0, 0), rfl, hp116, hM126.below⟩
     · -- no
      have hp127 := hp109.2 hb115; clear hp109
      have hF128 : Fr 69 [] [⟨2, [], .pointer (some ⟨b2, 0, none⟩)⟩, ⟨4, [], .pointer (some ⟨b7, 0, none⟩)⟩, ⟨10, [], .int .i64 u1⟩] a113 := hF114.region (by kernel_rfl) (by kernel_rfl); clear hF114
      refine sqH ?_; intro hQ129Q hQ129
      refine s1 hF128 26 (.bool (u1 == 4)) ?_; intro a130 hF131; clear hF128
      refine s1 hF131 22 (.bool (u1 == 4)) ?_; intro a132 hF133; clear hF131
      refine nlH (hQ129 _ _ ?_); clear hQ129 hQ129Q
      refine cd hF133 (t := u1 == 4) (by kernel_rfl) (fun hb134 => ?_) (fun hb134 => ?_)
      · -- yes
       have hp135 := hp127.1 hb134; clear hp127
       refine wp_skip ?_
       refine thn ?_
       refine cd hF133 (t := u1 == 4) (by kernel_rfl) (fun _ => ?_) (fun h => Bool.noConfusion (hb134.symm.trans h))
       refine sqH ?_; intro hQ137Q hQ137
       refine l2 hF133 hM20 28 1 0 3 [.int .i64 u0.Sent, .int .i64 u0.Got, .int .i64 u0.Rest] rfl rfl ?_; intro a138 hF139; clear hF133
       refine sr hF139 hM20 0 [.int .i64 u0.Sent, .int .i64 u0.Got, .int .i64 u0.Rest] (b := b7) (off := 0) (cs := [.int .i64 0, .int .i64 0, .int .i64 0]) (ty := 28) (u := .agg #[.int .i64 u0.Sent, .int .i64 u0.Got, .int .i64 u0.Rest]) (nog rfl _) rfl rfl (by kernel_rfl) (by kernel_rfl) (by kernel_rfl) (by kernel_rfl) (by kernel_rfl) (by kernel_rfl) (by kernel_rfl) ?_; intro wd140 hM141; clear hM20
       refine s1 hF139 5 (.int .i64 0) ?_; intro a142 hF143; clear hF139
       have hM144 : Mem w.heap.size [] w Z [.row b7 [.int .i64 u0.Sent, .int .i64 u0.Got, .int .i64 u0.Rest] 28, .row b2 [.int .i64 u0.Sent, .int .i64 u0.Got, .int .i64 u0.Rest] 28] Z wd140 := hM141; clear hM141
       refine nlH (hQ137 _ _ ?_); clear hQ137 hQ137Q
       refine wp_ret ?_
       refine ibr ?_
       refine thr ?_
       refine thr ?_
       refine rt (fn := Try.f17) (v := .tuple #[.agg #[.int .i64 u0.Sent, .int .i64 u0.Got, .int .i64 u0.Rest], .int .i64 0]) hF143 (re2c hF143 (fn := Try.f17) rfl (ad := ⟨b7, 0, none⟩) (by kernel_rfl) (loadVar_run hM144 0 (b := b7) (k := 3) (vs := [.int .i64 u0.Sent, .int .i64 u0.Got, .int .i64 u0.Rest]) (ty := 28) rfl (by kernel_rfl) (by kernel_rfl)) (by kernel_rfl)) ?_
       exact ⟨(u0, 0), rfl, hp135, hM144.below⟩
      · -- no
       have hp145 := hp127.2 hb134; clear hp127
       refine rgH ?_; intro hQ146Q hQ146
       refine s1 hF133 27 (.bool (u1 == 5)) ?_; intro a147 hF148; clear hF133
       refine s1 hF148 22 (.bool (u1 == 5)) ?_; intro a149 hF150; clear hF148
       refine nlH (hQ146 _ _ ?_); clear hQ146 hQ146Q
       refine thn ?_
       refine cd hF150 (t := u1 == 5) (by kernel_rfl) (fun hb151 => ?_) (fun hb151 => ?_)
       · -- yes
        have hp152 := hp145.1 hb151; clear hp145
        refine sqH ?_; intro hQ153Q hQ153
        refine l2 hF150 hM20 28 1 0 3 [.int .i64 u0.Sent, .int .i64 u0.Got, .int .i64 u0.Rest] rfl rfl ?_; intro a154 hF155; clear hF150
        refine sr hF155 hM20 0 [.int .i64 u0.Sent, .int .i64 u0.Got, .int .i64 u0.Rest] (b := b7) (off := 0) (cs := [.int .i64 0, .int .i64 0, .int .i64 0]) (ty := 28) (u := .agg #[.int .i64 u0.Sent, .int .i64 u0.Got, .int .i64 u0.Rest]) (nog rfl _) rfl rfl (by kernel_rfl) (by kernel_rfl) (by kernel_rfl) (by kernel_rfl) (by kernel_rfl) (by kernel_rfl) (by kernel_rfl) ?_; intro wd156 hM157; clear hM20
        refine s1 hF155 5 (.int .i64 0) ?_; intro a158 hF159; clear hF155
        have hM160 : Mem w.heap.size [] w Z [.row b7 [.int .i64 u0.Sent, .int .i64 u0.Got, .int .i64 u0.Rest] 28, .row b2 [.int .i64 u0.Sent, .int .i64 u0.Got, .int .i64 u0.Rest] 28] Z wd156 := hM157; clear hM157
        refine nlH (hQ153 _ _ ?_); clear hQ153 hQ153Q
        refine wp_ret ?_
        refine ibr ?_
        refine thr ?_
        refine thr ?_
        refine rt (fn := Try.f17) (v := .tuple #[.agg #[.int .i64 u0.Sent, .int .i64 u0.Got, .int .i64 u0.Rest], .int .i64 0]) hF159 (re2c hF159 (fn := Try.f17) rfl (ad := ⟨b7, 0, none⟩) (by kernel_rfl) (loadVar_run hM160 0 (b := b7) (k := 3) (vs := [.int .i64 u0.Sent, .int .i64 u0.Got, .int .i64 u0.Rest]) (ty := 28) rfl (by kernel_rfl) (by kernel_rfl)) (by kernel_rfl)) ?_
        exact ⟨(u0, 0), rfl, hp152, hM160.below⟩
       · -- no
        have hp161 := hp145.2 hb151; clear hp145
        refine wp_skip ?_
        refine ibn ?_
        refine thn ?_
        refine sqH ?_; intro hQ162Q hQ162
        refine s1 hF150 29 (.agg #[.int .i64 0, .int .i64 0, .int .i64 0]) ?_; intro a163 hF164; clear hF150
        refine sr hF164 hM20 0 [.int .i64 0, .int .i64 0, .int .i64 0] (b := b7) (off := 0) (cs := [.int .i64 0, .int .i64 0, .int .i64 0]) (ty := 28) (u := .agg #[.int .i64 0, .int .i64 0, .int .i64 0]) (nog rfl _) rfl rfl (by kernel_rfl) (by kernel_rfl) (by kernel_rfl) (by kernel_rfl) (by kernel_rfl) (by kernel_rfl) (by kernel_rfl) ?_; intro wd165 hM166; clear hM20
        refine s1 hF164 5 (.int .i64 8) ?_; intro a167 hF168; clear hF164
        have hM169 : Mem w.heap.size [] w Z [.row b7 [.int .i64 0, .int .i64 0, .int .i64 0] 28, .row b2 [.int .i64 u0.Sent, .int .i64 u0.Got, .int .i64 u0.Rest] 28] Z wd165 := hM166; clear hM166
        refine nlH (hQ162 _ _ ?_); clear hQ162 hQ162Q
        refine wp_ret ?_
        refine thr ?_
        refine rt (fn := Try.f17) (v := .tuple #[.agg #[.int .i64 0, .int .i64 0, .int .i64 0], .int .i64 8]) hF168 (re2c hF168 (fn := Try.f17) rfl (ad := ⟨b7, 0, none⟩) (by kernel_rfl) (loadVar_run hM169 0 (b := b7) (k := 3) (vs := [.int .i64 0, .int .i64 0, .int .i64 0]) (ty := 28) rfl (by kernel_rfl) (by kernel_rfl)) (by kernel_rfl)) ?_
        exact ⟨((⟨0, 0, 0⟩ : Health), 8), rfl, hp161, hM169.below⟩
 · -- no
  have hp170 := hp.2 hb23; clear hp
  refine wp_skip ?_
  refine thn ?_
  refine wp_seq ?_
  refine sqH ?_; intro hQ171Q hQ171
  refine s1 hF22 30 (.int .i64 u1) ?_; intro a172 hF173; clear hF22
  refine s1 hF173 31 (.bool (decide (u1 < 1))) ?_; intro a174 hF175; clear hF173
  refine s1 hF175 32 (.bool (decide (u1 < 1))) ?_; intro a176 hF177; clear hF175
  have hF178 := hF177.atom ((decide (u1 < 1)) == false) (by kernel_rfl); clear hF177
  refine gp hF178 33 0 [] (decide (u1 < 1)) (.int .i64 u1) rfl rfl ?_; intro a179 hF180; clear hF178
  refine gp hF180 34 0 [] (decide (u1 < 1)) (.bool (decide (u1 > 6))) rfl rfl ?_; intro a181 hF182; clear hF180
  refine st hF182 (.bool ((decide (u1 < 1)) || (decide (u1 > 6)))) (nog rfl _) rfl (by kernel_rfl) (pk_or hF182 (g := []) (m := 0) (b := decide (u1 < 1)) (v := decide (u1 > 6)) rfl (by kernel_rfl) (by kernel_rfl) (by kernel_rfl) rfl) ?_; intro a183 hF184; clear hF182
  refine nlH (hQ171 _ _ ?_); clear hQ171 hQ171Q
  refine cd hF184 (t := (decide (u1 < 1)) || (decide (u1 > 6))) (by kernel_rfl) (fun hb185 => ?_) (fun hb185 => ?_)
  · -- yes
   have hp186 := hp170.1 hb185; clear hp170
   have hF187 : Fr 69 [] [⟨4, [], .pointer (some ⟨b7, 0, none⟩)⟩] a183 := hF184.region (by kernel_rfl) (by kernel_rfl); clear hF184
   refine sqH ?_; intro hQ188Q hQ188
   refine s1 hF187 36 (.agg #[.int .i64 0, .int .i64 0, .int .i64 0]) ?_; intro a189 hF190; clear hF187
   refine sr hF190 hM20 0 [.int .i64 0, .int .i64 0, .int .i64 0] (b := b7) (off := 0) (cs := [.int .i64 0, .int .i64 0, .int .i64 0]) (ty := 28) (u := .agg #[.int .i64 0, .int .i64 0, .int .i64 0]) (nog rfl _) rfl rfl (by kernel_rfl) (by kernel_rfl) (by kernel_rfl) (by kernel_rfl) (by kernel_rfl) (by kernel_rfl) (by kernel_rfl) ?_; intro wd191 hM192; clear hM20
   refine s1 hF190 5 (.int .i64 8) ?_; intro a193 hF194; clear hF190
   have hM195 : Mem w.heap.size [] w Z [.row b7 [.int .i64 0, .int .i64 0, .int .i64 0] 28, .row b2 [.int .i64 u0.Sent, .int .i64 u0.Got, .int .i64 u0.Rest] 28] Z wd191 := hM192; clear hM192
   refine nlH (hQ188 _ _ ?_); clear hQ188 hQ188Q
   refine wp_ret ?_
   refine thr ?_
   refine rt (fn := Try.f17) (v := .tuple #[.agg #[.int .i64 0, .int .i64 0, .int .i64 0], .int .i64 8]) hF194 (re2c hF194 (fn := Try.f17) rfl (ad := ⟨b7, 0, none⟩) (by kernel_rfl) (loadVar_run hM195 0 (b := b7) (k := 3) (vs := [.int .i64 0, .int .i64 0, .int .i64 0]) (ty := 28) rfl (by kernel_rfl) (by kernel_rfl)) (by kernel_rfl)) ?_
   exact ⟨((⟨0, 0, 0⟩ : Health), 8), rfl, hp186, hM195.below⟩
  · -- no
   have hp196 := hp170.2 hb185; clear hp170
   refine wp_skip ?_
   refine thn ?_
   have hF197 : Fr 69 [] [⟨1, [], .int .i64 u1⟩, ⟨2, [], .pointer (some ⟨b2, 0, none⟩)⟩, ⟨4, [], .pointer (some ⟨b7, 0, none⟩)⟩] a183 := hF184.region (by kernel_rfl) (by kernel_rfl); clear hF184
   refine sqH ?_; intro hQ198Q hQ198
   refine s1 hF197 37 (.agg #[.int .i64 (-1), .int .i64 0]) ?_; intro a199 hF200; clear hF197
   refine s1 hF200 38 (.agg #[.int .i64 0, .int .i64 (-1)]) ?_; intro a201 hF202; clear hF200
   refine s1 hF202 39 (.agg #[.int .i64 8, .int .i64 0]) ?_; intro a203 hF204; clear hF202
   refine s1 hF204 40 (.agg #[.int .i64 0, .int .i64 1]) ?_; intro a205 hF206; clear hF204
   refine s1 hF206 41 (.agg #[.int .i64 0, .int .i64 8]) ?_; intro a207 hF208; clear hF206
   refine s1 hF208 42 (.agg #[.int .i64 0, .int .i64 0]) ?_; intro a209 hF210; clear hF208
   refine s1 hF210 43 (.agg #[.int .i64 0, .int .i64 0, .int .i64 (-1), .int .i64 0, .int .i64 0, .int .i64 (-1), .int .i64 8, .int .i64 0, .int .i64 0, .int .i64 1, .int .i64 0, .int .i64 8, .int .i64 0, .int .i64 0]) ?_; intro a211 hF212; clear hF210
   refine s1 hF212 44 (.int .i64 u1) ?_; intro a213 hF214; clear hF212
   have hc215 := hp196.1; have hp216 := hp196.2; clear hp196
   have hix : ∀ x : Int, 0 ≤ x ∧ x < 7 → x = 0 ∨ x = 1 ∨ x = 2 ∨ x = 3 ∨ x = 4 ∨ x = 5 ∨ x = 6 := by intro x hx; omega
   refine st hF214 (.agg #[.int .i64 (([0, -1, 0, 8, 0, 0, 0] : List Int).getD u1.toNat 0), .int .i64 (([0, 0, -1, 0, 1, 8, 0] : List Int).getD u1.toNat 0)]) (nog rfl _) rfl (by kernel_rfl) ((by generalize u1 = ix at *; rcases hix _ hc215 with rfl | rfl | rfl | rfl | rfl | rfl | rfl <;> exact p0 hF214 (by kernel_rfl))) ?_; intro a217 hF218; clear hF214
   refine sn hF218 hM20 (fun b => .pointer (some ⟨b, 0, none⟩)) [.int .i64 0, .int .i64 0] 46 (nog rfl _) rfl (by kernel_rfl) (by kernel_rfl) ?_; intro b219 a220 wd222 hF221 hM223; clear hF218 hM20
   refine sr hF221 hM223 0 [.int .i64 (([0, -1, 0, 8, 0, 0, 0] : List Int).getD u1.toNat 0), .int .i64 (([0, 0, -1, 0, 1, 8, 0] : List Int).getD u1.toNat 0)] (b := b219) (off := 0) (cs := [.int .i64 0, .int .i64 0]) (ty := 46) (u := .agg #[.int .i64 (([0, -1, 0, 8, 0, 0, 0] : List Int).getD u1.toNat 0), .int .i64 (([0, 0, -1, 0, 1, 8, 0] : List Int).getD u1.toNat 0)]) (nog rfl _) rfl rfl (by kernel_rfl) (by kernel_rfl) (by kernel_rfl) (by kernel_rfl) (by kernel_rfl) (by kernel_rfl) (by kernel_rfl) ?_; intro wd224 hM225; clear hM223
   have hM226 : Mem w.heap.size [] w Z [.row b219 [.int .i64 (([0, -1, 0, 8, 0, 0, 0] : List Int).getD u1.toNat 0), .int .i64 (([0, 0, -1, 0, 1, 8, 0] : List Int).getD u1.toNat 0)] 46, .row b7 [.int .i64 0, .int .i64 0, .int .i64 0] 28, .row b2 [.int .i64 u0.Sent, .int .i64 u0.Got, .int .i64 u0.Rest] 28] Z wd224 := hM225; clear hM225
   refine nlH (hQ198 _ _ ?_); clear hQ198 hQ198Q
   refine wp_seq ?_
   refine sqH ?_; intro hQ227Q hQ227
   refine s1 hF221 46 (.int .i64 u1) ?_; intro a228 hF229; clear hF221
   refine s1 hF229 47 (.bool (u1 == 2)) ?_; intro a230 hF231; clear hF229
   refine nlH (hQ227 _ _ ?_); clear hQ227 hQ227Q
   refine cd hF231 (t := u1 == 2) (by kernel_rfl) (fun hb232 => ?_) (fun hb232 => ?_)
   · -- yes
    have hp233 := hp216.1 hb232; clear hp216
    refine rgH ?_; intro hQ234Q hQ234
    refine s1 hF231 48 (.pointer (some ⟨b2, 1, none⟩)) ?_; intro a235 hF236; clear hF231
    refine l1 hF236 hM226 49 2 1 (.int .i64 u0.Got) rfl rfl ?_; intro a237 hF238; clear hF236
    refine st hF238 (.int .i64 (min u0.Got 127)) (nog rfl _) rfl (by kernel_rfl) (re_ (p0 hF238 (r := .ok (.value (.int .i64 (if 127 < u0.Got then 127 else u0.Got))) wd224) (by kernel_rfl)) (by rw [imin])) ?_; intro a239 hF240; clear hF238
    refine s1 hF240 51 (.pointer (some ⟨b2, 1, none⟩)) ?_; intro a241 hF242; clear hF240
    refine sr hF242 hM226 2 [.int .i64 u0.Sent, .int .i64 (min u0.Got 127), .int .i64 u0.Rest] (b := b2) (off := 1) (cs := [.int .i64 u0.Sent, .int .i64 u0.Got, .int .i64 u0.Rest]) (ty := 28) (u := .int .i64 (min u0.Got 127)) (nog rfl _) rfl rfl (by kernel_rfl) (by kernel_rfl) (by kernel_rfl) (by kernel_rfl) (by kernel_rfl) (by kernel_rfl) (by kernel_rfl) ?_; intro wd243 hM244; clear hM226
    have hM245 : Mem w.heap.size [] w Z [.row b219 [.int .i64 (([0, -1, 0, 8, 0, 0, 0] : List Int).getD u1.toNat 0), .int .i64 (([0, 0, -1, 0, 1, 8, 0] : List Int).getD u1.toNat 0)] 46, .row b7 [.int .i64 0, .int .i64 0, .int .i64 0] 28, .row b2 [.int .i64 u0.Sent, .int .i64 (min u0.Got 127), .int .i64 u0.Rest] 28] Z wd243 := hM244; clear hM244
    refine nlH (hQ234 _ _ ?_); clear hQ234 hQ234Q
    refine thn ?_
    have hF246 : Fr 69 [] [⟨2, [], .pointer (some ⟨b2, 0, none⟩)⟩, ⟨4, [], .pointer (some ⟨b7, 0, none⟩)⟩, ⟨6, [], .pointer (some ⟨b219, 0, none⟩)⟩] a241 := hF242.region (by kernel_rfl) (by kernel_rfl); clear hF242
    refine sqH ?_; intro hQ247Q hQ247
    refine s1 hF246 52 (.pointer (some ⟨b2, 0, none⟩)) ?_; intro a248 hF249; clear hF246
    refine l1 hF249 hM245 53 2 0 (.int .i64 u0.Sent) rfl rfl ?_; intro a250 hF251; clear hF249
    refine s1 hF251 54 (.pointer (some ⟨b219, 0, none⟩)) ?_; intro a252 hF253; clear hF251
    refine l1 hF253 hM245 55 0 0 (.int .i64 (([0, -1, 0, 8, 0, 0, 0] : List Int).getD u1.toNat 0)) rfl rfl ?_; intro a254 hF255; clear hF253
    refine s1 hF255 56 (.int .i64 (w64 (u0.Sent + (([0, -1, 0, 8, 0, 0, 0] : List Int).getD u1.toNat 0)))) ?_; intro a256 hF257; clear hF255
    refine st hF257 (.int .i64 (max (w64 (u0.Sent + (([0, -1, 0, 8, 0, 0, 0] : List Int).getD u1.toNat 0))) 0)) (nog rfl _) rfl (by kernel_rfl) (re_ (p0 hF257 (r := .ok (.value (.int .i64 (if (w64 (u0.Sent + (([0, -1, 0, 8, 0, 0, 0] : List Int).getD u1.toNat 0))) < 0 then 0 else (w64 (u0.Sent + (([0, -1, 0, 8, 0, 0, 0] : List Int).getD u1.toNat 0)))))) wd243) (by kernel_rfl)) (by rw [imax])) ?_; intro a258 hF259; clear hF257
    refine st hF259 (.int .i64 (min (max (w64 (u0.Sent + (([0, -1, 0, 8, 0, 0, 0] : List Int).getD u1.toNat 0))) 0) 256)) (nog rfl _) rfl (by kernel_rfl) (re_ (p0 hF259 (r := .ok (.value (.int .i64 (if 256 < (max (w64 (u0.Sent + (([0, -1, 0, 8, 0, 0, 0] : List Int).getD u1.toNat 0))) 0) then 256 else (max (w64 (u0.Sent + (([0, -1, 0, 8, 0, 0, 0] : List Int).getD u1.toNat 0))) 0)))) wd243) (by kernel_rfl)) (by rw [imin])) ?_; intro a260 hF261; clear hF259
    refine s1 hF261 59 (.pointer (some ⟨b2, 0, none⟩)) ?_; intro a262 hF263; clear hF261
    refine sr hF263 hM245 2 [.int .i64 (min (max (w64 (u0.Sent + (([0, -1, 0, 8, 0, 0, 0] : List Int).getD u1.toNat 0))) 0) 256), .int .i64 (min u0.Got 127), .int .i64 u0.Rest] (b := b2) (off := 0) (cs := [.int .i64 u0.Sent, .int .i64 (min u0.Got 127), .int .i64 u0.Rest]) (ty := 28) (u := .int .i64 (min (max (w64 (u0.Sent + (([0, -1, 0, 8, 0, 0, 0] : List Int).getD u1.toNat 0))) 0) 256)) (nog rfl _) rfl rfl (by kernel_rfl) (by kernel_rfl) (by kernel_rfl) (by kernel_rfl) (by kernel_rfl) (by kernel_rfl) (by kernel_rfl) ?_; intro wd264 hM265; clear hM245
    have hM266 : Mem w.heap.size [] w Z [.row b219 [.int .i64 (([0, -1, 0, 8, 0, 0, 0] : List Int).getD u1.toNat 0), .int .i64 (([0, 0, -1, 0, 1, 8, 0] : List Int).getD u1.toNat 0)] 46, .row b7 [.int .i64 0, .int .i64 0, .int .i64 0] 28, .row b2 [.int .i64 (min (max (w64 (u0.Sent + (([0, -1, 0, 8, 0, 0, 0] : List Int).getD u1.toNat 0))) 0) 256), .int .i64 (min u0.Got 127), .int .i64 u0.Rest] 28] Z wd264 := hM265; clear hM265
    refine nlH (hQ247 _ _ ?_); clear hQ247 hQ247Q
    refine sqH ?_; intro hQ267Q hQ267
    refine s1 hF263 60 (.pointer (some ⟨b2, 1, none⟩)) ?_; intro a268 hF269; clear hF263
    refine l1 hF269 hM266 61 2 1 (.int .i64 (min u0.Got 127)) rfl rfl ?_; intro a270 hF271; clear hF269
    refine s1 hF271 62 (.pointer (some ⟨b219, 1, none⟩)) ?_; intro a272 hF273; clear hF271
    refine l1 hF273 hM266 63 0 1 (.int .i64 (([0, 0, -1, 0, 1, 8, 0] : List Int).getD u1.toNat 0)) rfl rfl ?_; intro a274 hF275; clear hF273
    refine s1 hF275 64 (.int .i64 (w64 ((min u0.Got 127) + (([0, 0, -1, 0, 1, 8, 0] : List Int).getD u1.toNat 0)))) ?_; intro a276 hF277; clear hF275
    refine st hF277 (.int .i64 (max (w64 ((min u0.Got 127) + (([0, 0, -1, 0, 1, 8, 0] : List Int).getD u1.toNat 0))) 0)) (nog rfl _) rfl (by kernel_rfl) (re_ (p0 hF277 (r := .ok (.value (.int .i64 (if (w64 ((min u0.Got 127) + (([0, 0, -1, 0, 1, 8, 0] : List Int).getD u1.toNat 0))) < 0 then 0 else (w64 ((min u0.Got 127) + (([0, 0, -1, 0, 1, 8, 0] : List Int).getD u1.toNat 0)))))) wd264) (by kernel_rfl)) (by rw [imax])) ?_; intro a278 hF279; clear hF277
    refine st hF279 (.int .i64 (min (max (w64 ((min u0.Got 127) + (([0, 0, -1, 0, 1, 8, 0] : List Int).getD u1.toNat 0))) 0) 255)) (nog rfl _) rfl (by kernel_rfl) (re_ (p0 hF279 (r := .ok (.value (.int .i64 (if 255 < (max (w64 ((min u0.Got 127) + (([0, 0, -1, 0, 1, 8, 0] : List Int).getD u1.toNat 0))) 0) then 255 else (max (w64 ((min u0.Got 127) + (([0, 0, -1, 0, 1, 8, 0] : List Int).getD u1.toNat 0))) 0)))) wd264) (by kernel_rfl)) (by rw [imin])) ?_; intro a280 hF281; clear hF279
    refine s1 hF281 67 (.pointer (some ⟨b2, 1, none⟩)) ?_; intro a282 hF283; clear hF281
    refine sr hF283 hM266 2 [.int .i64 (min (max (w64 (u0.Sent + (([0, -1, 0, 8, 0, 0, 0] : List Int).getD u1.toNat 0))) 0) 256), .int .i64 (min (max (w64 ((min u0.Got 127) + (([0, 0, -1, 0, 1, 8, 0] : List Int).getD u1.toNat 0))) 0) 255), .int .i64 u0.Rest] (b := b2) (off := 1) (cs := [.int .i64 (min (max (w64 (u0.Sent + (([0, -1, 0, 8, 0, 0, 0] : List Int).getD u1.toNat 0))) 0) 256), .int .i64 (min u0.Got 127), .int .i64 u0.Rest]) (ty := 28) (u := .int .i64 (min (max (w64 ((min u0.Got 127) + (([0, 0, -1, 0, 1, 8, 0] : List Int).getD u1.toNat 0))) 0) 255)) (nog rfl _) rfl rfl (by kernel_rfl) (by kernel_rfl) (by kernel_rfl) (by kernel_rfl) (by kernel_rfl) (by kernel_rfl) (by kernel_rfl) ?_; intro wd284 hM285; clear hM266
    have hM286 : Mem w.heap.size [] w Z [.row b219 [.int .i64 (([0, -1, 0, 8, 0, 0, 0] : List Int).getD u1.toNat 0), .int .i64 (([0, 0, -1, 0, 1, 8, 0] : List Int).getD u1.toNat 0)] 46, .row b7 [.int .i64 0, .int .i64 0, .int .i64 0] 28, .row b2 [.int .i64 (min (max (w64 (u0.Sent + (([0, -1, 0, 8, 0, 0, 0] : List Int).getD u1.toNat 0))) 0) 256), .int .i64 (min (max (w64 ((min u0.Got 127) + (([0, 0, -1, 0, 1, 8, 0] : List Int).getD u1.toNat 0))) 0) 255), .int .i64 u0.Rest] 28] Z wd284 := hM285; clear hM285
    refine nlH (hQ267 _ _ ?_); clear hQ267 hQ267Q
    have hF287 : Fr 69 [] [⟨2, [], .pointer (some ⟨b2, 0, none⟩)⟩, ⟨4, [], .pointer (some ⟨b7, 0, none⟩)⟩] a282 := hF283.region (by kernel_rfl) (by kernel_rfl); clear hF283
    refine sqH ?_; intro hQ288Q hQ288
    refine l2 hF287 hM286 68 2 0 3 [.int .i64 (min (max (w64 (u0.Sent + (([0, -1, 0, 8, 0, 0, 0] : List Int).getD u1.toNat 0))) 0) 256), .int .i64 (min (max (w64 ((min u0.Got 127) + (([0, 0, -1, 0, 1, 8, 0] : List Int).getD u1.toNat 0))) 0) 255), .int .i64 u0.Rest] rfl rfl ?_; intro a289 hF290; clear hF287
    refine sr hF290 hM286 1 [.int .i64 (min (max (w64 (u0.Sent + (([0, -1, 0, 8, 0, 0, 0] : List Int).getD u1.toNat 0))) 0) 256), .int .i64 (min (max (w64 ((min u0.Got 127) + (([0, 0, -1, 0, 1, 8, 0] : List Int).getD u1.toNat 0))) 0) 255), .int .i64 u0.Rest] (b := b7) (off := 0) (cs := [.int .i64 0, .int .i64 0, .int .i64 0]) (ty := 28) (u := .agg #[.int .i64 (min (max (w64 (u0.Sent + (([0, -1, 0, 8, 0, 0, 0] : List Int).getD u1.toNat 0))) 0) 256), .int .i64 (min (max (w64 ((min u0.Got 127) + (([0, 0, -1, 0, 1, 8, 0] : List Int).getD u1.toNat 0))) 0) 255), .int .i64 u0.Rest]) (nog rfl _) rfl rfl (by kernel_rfl) (by kernel_rfl) (by kernel_rfl) (by kernel_rfl) (by kernel_rfl) (by kernel_rfl) (by kernel_rfl) ?_; intro wd291 hM292; clear hM286
    refine s1 hF290 5 (.int .i64 0) ?_; intro a293 hF294; clear hF290
    have hM295 : Mem w.heap.size [] w Z [.row b219 [.int .i64 (([0, -1, 0, 8, 0, 0, 0] : List Int).getD u1.toNat 0), .int .i64 (([0, 0, -1, 0, 1, 8, 0] : List Int).getD u1.toNat 0)] 46, .row b7 [.int .i64 (min (max (w64 (u0.Sent + (([0, -1, 0, 8, 0, 0, 0] : List Int).getD u1.toNat 0))) 0) 256), .int .i64 (min (max (w64 ((min u0.Got 127) + (([0, 0, -1, 0, 1, 8, 0] : List Int).getD u1.toNat 0))) 0) 255), .int .i64 u0.Rest] 28, .row b2 [.int .i64 (min (max (w64 (u0.Sent + (([0, -1, 0, 8, 0, 0, 0] : List Int).getD u1.toNat 0))) 0) 256), .int .i64 (min (max (w64 ((min u0.Got 127) + (([0, 0, -1, 0, 1, 8, 0] : List Int).getD u1.toNat 0))) 0) 255), .int .i64 u0.Rest] 28] Z wd291 := hM292; clear hM292
    refine nlH (hQ288 _ _ ?_); clear hQ288 hQ288Q
    refine wp_ret ?_
    refine rt (fn := Try.f17) (v := .tuple #[.agg #[.int .i64 (min (max (w64 (u0.Sent + (([0, -1, 0, 8, 0, 0, 0] : List Int).getD u1.toNat 0))) 0) 256), .int .i64 (min (max (w64 ((min u0.Got 127) + (([0, 0, -1, 0, 1, 8, 0] : List Int).getD u1.toNat 0))) 0) 255), .int .i64 u0.Rest], .int .i64 0]) hF294 (re2c hF294 (fn := Try.f17) rfl (ad := ⟨b7, 0, none⟩) (by kernel_rfl) (loadVar_run hM295 1 (b := b7) (k := 3) (vs := [.int .i64 (min (max (w64 (u0.Sent + (([0, -1, 0, 8, 0, 0, 0] : List Int).getD u1.toNat 0))) 0) 256), .int .i64 (min (max (w64 ((min u0.Got 127) + (([0, 0, -1, 0, 1, 8, 0] : List Int).getD u1.toNat 0))) 0) 255), .int .i64 u0.Rest]) (ty := 28) rfl (by kernel_rfl) (by kernel_rfl)) (by kernel_rfl)) ?_
    exact ⟨((⟨min (max (w64 (u0.Sent + (([0, -1, 0, 8, 0, 0, 0] : List Int).getD u1.toNat 0))) 0) 256, min (max (w64 ((min u0.Got 127) + (([0, 0, -1, 0, 1, 8, 0] : List Int).getD u1.toNat 0))) 0) 255, u0.Rest⟩ : Health), 0), rfl, hp233, hM295.below⟩
   · -- no
    have hp296 := hp216.2 hb232; clear hp216
    refine wp_skip ?_
    refine thn ?_
    refine sqH ?_; intro hQ297Q hQ297
    refine s1 hF231 52 (.pointer (some ⟨b2, 0, none⟩)) ?_; intro a298 hF299; clear hF231
    refine l1 hF299 hM226 53 2 0 (.int .i64 u0.Sent) rfl rfl ?_; intro a300 hF301; clear hF299
    refine s1 hF301 54 (.pointer (some ⟨b219, 0, none⟩)) ?_; intro a302 hF303; clear hF301
    refine l1 hF303 hM226 55 0 0 (.int .i64 (([0, -1, 0, 8, 0, 0, 0] : List Int).getD u1.toNat 0)) rfl rfl ?_; intro a304 hF305; clear hF303
    refine s1 hF305 56 (.int .i64 (w64 (u0.Sent + (([0, -1, 0, 8, 0, 0, 0] : List Int).getD u1.toNat 0)))) ?_; intro a306 hF307; clear hF305
    refine st hF307 (.int .i64 (max (w64 (u0.Sent + (([0, -1, 0, 8, 0, 0, 0] : List Int).getD u1.toNat 0))) 0)) (nog rfl _) rfl (by kernel_rfl) (re_ (p0 hF307 (r := .ok (.value (.int .i64 (if (w64 (u0.Sent + (([0, -1, 0, 8, 0, 0, 0] : List Int).getD u1.toNat 0))) < 0 then 0 else (w64 (u0.Sent + (([0, -1, 0, 8, 0, 0, 0] : List Int).getD u1.toNat 0)))))) wd224) (by kernel_rfl)) (by rw [imax])) ?_; intro a308 hF309; clear hF307
    refine st hF309 (.int .i64 (min (max (w64 (u0.Sent + (([0, -1, 0, 8, 0, 0, 0] : List Int).getD u1.toNat 0))) 0) 256)) (nog rfl _) rfl (by kernel_rfl) (re_ (p0 hF309 (r := .ok (.value (.int .i64 (if 256 < (max (w64 (u0.Sent + (([0, -1, 0, 8, 0, 0, 0] : List Int).getD u1.toNat 0))) 0) then 256 else (max (w64 (u0.Sent + (([0, -1, 0, 8, 0, 0, 0] : List Int).getD u1.toNat 0))) 0)))) wd224) (by kernel_rfl)) (by rw [imin])) ?_; intro a310 hF311; clear hF309
    refine s1 hF311 59 (.pointer (some ⟨b2, 0, none⟩)) ?_; intro a312 hF313; clear hF311
    refine sr hF313 hM226 2 [.int .i64 (min (max (w64 (u0.Sent + (([0, -1, 0, 8, 0, 0, 0] : List Int).getD u1.toNat 0))) 0) 256), .int .i64 u0.Got, .int .i64 u0.Rest] (b := b2) (off := 0) (cs := [.int .i64 u0.Sent, .int .i64 u0.Got, .int .i64 u0.Rest]) (ty := 28) (u := .int .i64 (min (max (w64 (u0.Sent + (([0, -1, 0, 8, 0, 0, 0] : List Int).getD u1.toNat 0))) 0) 256)) (nog rfl _) rfl rfl (by kernel_rfl) (by kernel_rfl) (by kernel_rfl) (by kernel_rfl) (by kernel_rfl) (by kernel_rfl) (by kernel_rfl) ?_; intro wd314 hM315; clear hM226
    have hM316 : Mem w.heap.size [] w Z [.row b219 [.int .i64 (([0, -1, 0, 8, 0, 0, 0] : List Int).getD u1.toNat 0), .int .i64 (([0, 0, -1, 0, 1, 8, 0] : List Int).getD u1.toNat 0)] 46, .row b7 [.int .i64 0, .int .i64 0, .int .i64 0] 28, .row b2 [.int .i64 (min (max (w64 (u0.Sent + (([0, -1, 0, 8, 0, 0, 0] : List Int).getD u1.toNat 0))) 0) 256), .int .i64 u0.Got, .int .i64 u0.Rest] 28] Z wd314 := hM315; clear hM315
    refine nlH (hQ297 _ _ ?_); clear hQ297 hQ297Q
    have hF317 : Fr 69 [] [⟨2, [], .pointer (some ⟨b2, 0, none⟩)⟩, ⟨4, [], .pointer (some ⟨b7, 0, none⟩)⟩, ⟨6, [], .pointer (some ⟨b219, 0, none⟩)⟩] a312 := hF313.region (by kernel_rfl) (by kernel_rfl); clear hF313
    refine sqH ?_; intro hQ318Q hQ318
    refine s1 hF317 60 (.pointer (some ⟨b2, 1, none⟩)) ?_; intro a319 hF320; clear hF317
    refine l1 hF320 hM316 61 2 1 (.int .i64 u0.Got) rfl rfl ?_; intro a321 hF322; clear hF320
    refine s1 hF322 62 (.pointer (some ⟨b219, 1, none⟩)) ?_; intro a323 hF324; clear hF322
    refine l1 hF324 hM316 63 0 1 (.int .i64 (([0, 0, -1, 0, 1, 8, 0] : List Int).getD u1.toNat 0)) rfl rfl ?_; intro a325 hF326; clear hF324
    refine s1 hF326 64 (.int .i64 (w64 (u0.Got + (([0, 0, -1, 0, 1, 8, 0] : List Int).getD u1.toNat 0)))) ?_; intro a327 hF328; clear hF326
    refine st hF328 (.int .i64 (max (w64 (u0.Got + (([0, 0, -1, 0, 1, 8, 0] : List Int).getD u1.toNat 0))) 0)) (nog rfl _) rfl (by kernel_rfl) (re_ (p0 hF328 (r := .ok (.value (.int .i64 (if (w64 (u0.Got + (([0, 0, -1, 0, 1, 8, 0] : List Int).getD u1.toNat 0))) < 0 then 0 else (w64 (u0.Got + (([0, 0, -1, 0, 1, 8, 0] : List Int).getD u1.toNat 0)))))) wd314) (by kernel_rfl)) (by rw [imax])) ?_; intro a329 hF330; clear hF328
    refine st hF330 (.int .i64 (min (max (w64 (u0.Got + (([0, 0, -1, 0, 1, 8, 0] : List Int).getD u1.toNat 0))) 0) 255)) (nog rfl _) rfl (by kernel_rfl) (re_ (p0 hF330 (r := .ok (.value (.int .i64 (if 255 < (max (w64 (u0.Got + (([0, 0, -1, 0, 1, 8, 0] : List Int).getD u1.toNat 0))) 0) then 255 else (max (w64 (u0.Got + (([0, 0, -1, 0, 1, 8, 0] : List Int).getD u1.toNat 0))) 0)))) wd314) (by kernel_rfl)) (by rw [imin])) ?_; intro a331 hF332; clear hF330
    refine s1 hF332 67 (.pointer (some ⟨b2, 1, none⟩)) ?_; intro a333 hF334; clear hF332
    refine sr hF334 hM316 2 [.int .i64 (min (max (w64 (u0.Sent + (([0, -1, 0, 8, 0, 0, 0] : List Int).getD u1.toNat 0))) 0) 256), .int .i64 (min (max (w64 (u0.Got + (([0, 0, -1, 0, 1, 8, 0] : List Int).getD u1.toNat 0))) 0) 255), .int .i64 u0.Rest] (b := b2) (off := 1) (cs := [.int .i64 (min (max (w64 (u0.Sent + (([0, -1, 0, 8, 0, 0, 0] : List Int).getD u1.toNat 0))) 0) 256), .int .i64 u0.Got, .int .i64 u0.Rest]) (ty := 28) (u := .int .i64 (min (max (w64 (u0.Got + (([0, 0, -1, 0, 1, 8, 0] : List Int).getD u1.toNat 0))) 0) 255)) (nog rfl _) rfl rfl (by kernel_rfl) (by kernel_rfl) (by kernel_rfl) (by kernel_rfl) (by kernel_rfl) (by kernel_rfl) (by kernel_rfl) ?_; intro wd335 hM336; clear hM316
    have hM337 : Mem w.heap.size [] w Z [.row b219 [.int .i64 (([0, -1, 0, 8, 0, 0, 0] : List Int).getD u1.toNat 0), .int .i64 (([0, 0, -1, 0, 1, 8, 0] : List Int).getD u1.toNat 0)] 46, .row b7 [.int .i64 0, .int .i64 0, .int .i64 0] 28, .row b2 [.int .i64 (min (max (w64 (u0.Sent + (([0, -1, 0, 8, 0, 0, 0] : List Int).getD u1.toNat 0))) 0) 256), .int .i64 (min (max (w64 (u0.Got + (([0, 0, -1, 0, 1, 8, 0] : List Int).getD u1.toNat 0))) 0) 255), .int .i64 u0.Rest] 28] Z wd335 := hM336; clear hM336
    refine nlH (hQ318 _ _ ?_); clear hQ318 hQ318Q
    refine sqH ?_; intro hQ338Q hQ338
    refine l2 hF334 hM337 68 2 0 3 [.int .i64 (min (max (w64 (u0.Sent + (([0, -1, 0, 8, 0, 0, 0] : List Int).getD u1.toNat 0))) 0) 256), .int .i64 (min (max (w64 (u0.Got + (([0, 0, -1, 0, 1, 8, 0] : List Int).getD u1.toNat 0))) 0) 255), .int .i64 u0.Rest] rfl rfl ?_; intro a339 hF340; clear hF334
    refine sr hF340 hM337 1 [.int .i64 (min (max (w64 (u0.Sent + (([0, -1, 0, 8, 0, 0, 0] : List Int).getD u1.toNat 0))) 0) 256), .int .i64 (min (max (w64 (u0.Got + (([0, 0, -1, 0, 1, 8, 0] : List Int).getD u1.toNat 0))) 0) 255), .int .i64 u0.Rest] (b := b7) (off := 0) (cs := [.int .i64 0, .int .i64 0, .int .i64 0]) (ty := 28) (u := .agg #[.int .i64 (min (max (w64 (u0.Sent + (([0, -1, 0, 8, 0, 0, 0] : List Int).getD u1.toNat 0))) 0) 256), .int .i64 (min (max (w64 (u0.Got + (([0, 0, -1, 0, 1, 8, 0] : List Int).getD u1.toNat 0))) 0) 255), .int .i64 u0.Rest]) (nog rfl _) rfl rfl (by kernel_rfl) (by kernel_rfl) (by kernel_rfl) (by kernel_rfl) (by kernel_rfl) (by kernel_rfl) (by kernel_rfl) ?_; intro wd341 hM342; clear hM337
    refine s1 hF340 5 (.int .i64 0) ?_; intro a343 hF344; clear hF340
    have hM345 : Mem w.heap.size [] w Z [.row b219 [.int .i64 (([0, -1, 0, 8, 0, 0, 0] : List Int).getD u1.toNat 0), .int .i64 (([0, 0, -1, 0, 1, 8, 0] : List Int).getD u1.toNat 0)] 46, .row b7 [.int .i64 (min (max (w64 (u0.Sent + (([0, -1, 0, 8, 0, 0, 0] : List Int).getD u1.toNat 0))) 0) 256), .int .i64 (min (max (w64 (u0.Got + (([0, 0, -1, 0, 1, 8, 0] : List Int).getD u1.toNat 0))) 0) 255), .int .i64 u0.Rest] 28, .row b2 [.int .i64 (min (max (w64 (u0.Sent + (([0, -1, 0, 8, 0, 0, 0] : List Int).getD u1.toNat 0))) 0) 256), .int .i64 (min (max (w64 (u0.Got + (([0, 0, -1, 0, 1, 8, 0] : List Int).getD u1.toNat 0))) 0) 255), .int .i64 u0.Rest] 28] Z wd341 := hM342; clear hM342
    refine nlH (hQ338 _ _ ?_); clear hQ338 hQ338Q
    refine wp_ret ?_
    refine rt (fn := Try.f17) (v := .tuple #[.agg #[.int .i64 (min (max (w64 (u0.Sent + (([0, -1, 0, 8, 0, 0, 0] : List Int).getD u1.toNat 0))) 0) 256), .int .i64 (min (max (w64 (u0.Got + (([0, 0, -1, 0, 1, 8, 0] : List Int).getD u1.toNat 0))) 0) 255), .int .i64 u0.Rest], .int .i64 0]) hF344 (re2c hF344 (fn := Try.f17) rfl (ad := ⟨b7, 0, none⟩) (by kernel_rfl) (loadVar_run hM345 1 (b := b7) (k := 3) (vs := [.int .i64 (min (max (w64 (u0.Sent + (([0, -1, 0, 8, 0, 0, 0] : List Int).getD u1.toNat 0))) 0) 256), .int .i64 (min (max (w64 (u0.Got + (([0, 0, -1, 0, 1, 8, 0] : List Int).getD u1.toNat 0))) 0) 255), .int .i64 u0.Rest]) (ty := 28) rfl (by kernel_rfl) (by kernel_rfl)) (by kernel_rfl)) ?_
    exact ⟨((⟨min (max (w64 (u0.Sent + (([0, -1, 0, 8, 0, 0, 0] : List Int).getD u1.toNat 0))) 0) 256, min (max (w64 (u0.Got + (([0, 0, -1, 0, 1, 8, 0] : List Int).getD u1.toNat 0))) 0) 255, u0.Rest⟩ : Health), 0), rfl, hp296, hM345.below⟩
theorem hchange_fun (u0 : Health) (u1 : Int)  (Z : Fz) (w : World)  (hZ : Z.on w) : Calls Try.prog 17 #[.agg #[.int .i64 u0.Sent, .int .i64 u0.Got, .int .i64 u0.Rest], .int .i64 u1] w fun e w' => e = .returned (.tuple #[.agg #[.int .i64 (((hchange u0 u1).1).Sent), .int .i64 (((hchange u0 u1).1).Got), .int .i64 (((hchange u0 u1).1).Rest)], .int .i64 ((hchange u0 u1).2)]) ∧ Below w.heap.size w w' :=
  (hchange_walk u0 u1  Z w  hZ (hchange_ok u0 u1)).mono fun _ _ ⟨r, he, hk, hb⟩ => ⟨by subst hk; exact he, hb⟩

set_option maxRecDepth 100000 in
theorem hTill_walk (u0 : Health)  (Z : Fz) (w : World)  (hZ : Z.on w) {K : (Int × Int) → Prop} (hp : hTill_vc u0 K) : Calls Try.prog 16 #[.agg #[.int .i64 u0.Sent, .int .i64 u0.Got, .int .i64 u0.Rest]] w fun e w' => ∃ r : Int × Int, e = .returned (.tuple #[.int .i64 r.1, .int .i64 r.2]) ∧ K r ∧ Below w.heap.size w w' := by
 refine enter0 Try.func16 rfl rfl (by kernel_rfl) ?_; intro a0 hF0; have hM0 := Mem.start w Z hZ; have hle0 := Fz.le.refl Z
 refine sqH ?_; intro hQ1Q hQ1
 refine sn hF0 hM0 (fun b => .pointer (some ⟨b, 0, none⟩)) [.int .i64 u0.Sent, .int .i64 u0.Got, .int .i64 u0.Rest] 28 (nog rfl _) rfl (by kernel_rfl) (by kernel_rfl) ?_; intro b2 a3 wd5 hF4 hM6; clear hF0 hM0
 refine s1 hF4 2 (.int .i64 0) ?_; intro a7 hF8; clear hF4
 refine s1 hF8 3 (.int .i64 0) ?_; intro a9 hF10; clear hF8
 refine nlH (hQ1 _ _ ?_); clear hQ1 hQ1Q
 refine wp_seq ?_
 refine sqH ?_; intro hQ11Q hQ11
 refine l2 hF10 hM6 5 0 0 3 [.int .i64 u0.Sent, .int .i64 u0.Got, .int .i64 u0.Rest] rfl rfl ?_; intro a12 hF13; clear hF10
 refine fcl hF13 hM6 (.int .i64 (hcheck u0)) 12 #[.agg #[.int .i64 u0.Sent, .int .i64 u0.Got, .int .i64 u0.Rest]] (nog rfl _) rfl (by kernel_rfl) (fun _ => by kernel_rfl) (hcheck_fun u0 _ _ hM6.fz) ?_; intro a14 wd16 hF15 hM17; clear hF13 hM6
 refine s1 hF15 4 (.int .i64 (hcheck u0)) ?_; intro a18 hF19; clear hF15
 refine nlH (hQ11 _ _ ?_); clear hQ11 hQ11Q
 refine sqH ?_; intro hQ20Q hQ20
 refine s1 hF19 7 (.int .i64 (hcheck u0)) ?_; intro a21 hF22; clear hF19
 refine s1 hF22 8 (.bool ((hcheck u0) != 0)) ?_; intro a23 hF24; clear hF22
 refine nlH (hQ20 _ _ ?_); clear hQ20 hQ20Q
 refine cd hF24 (t := (hcheck u0) != 0) (by kernel_rfl) (fun hb25 => ?_) (fun hb25 => ?_)
 · -- yes
  have hp26 := hp.1 hb25; clear hp
  refine sqH ?_; intro hQ27Q hQ27
  refine s1 hF24 9 (.int .i64 (hcheck u0)) ?_; intro a28 hF29; clear hF24
  refine s1 hF29 2 (.int .i64 0) ?_; intro a30 hF31; clear hF29
  refine s1 hF31 3 (.int .i64 (hcheck u0)) ?_; intro a32 hF33; clear hF31
  refine nlH (hQ27 _ _ ?_); clear hQ27 hQ27Q
  refine wp_ret ?_
  refine thr ?_
  refine rt (fn := Try.f16) (v := .tuple #[.int .i64 0, .int .i64 (hcheck u0)]) hF33 (re2 hF33 (fn := Try.f16) rfl (by kernel_rfl) (by kernel_rfl)) ?_
  exact ⟨(0, (hcheck u0)), rfl, hp26, hM17.below⟩
 · -- no
  have hp34 := hp.2 hb25; clear hp
  refine wp_skip ?_
  refine thn ?_
  refine sqH ?_; intro hQ35Q hQ35
  refine s1 hF24 10 (.pointer (some ⟨b2, 0, none⟩)) ?_; intro a36 hF37; clear hF24
  refine l1 hF37 hM17 11 0 0 (.int .i64 u0.Sent) rfl rfl ?_; intro a38 hF39; clear hF37
  refine s1 hF39 12 (.int .i64 (w64 (256 - u0.Sent))) ?_; intro a40 hF41; clear hF39
  refine s1 hF41 13 (.int .i64 (w64 ((w64 (256 - u0.Sent)) + 7))) ?_; intro a42 hF43; clear hF41
  refine s1 hF43 14 (.int .i64 (w64 ((w64 ((w64 (256 - u0.Sent)) + 7)).tdiv 8))) ?_; intro a44 hF45; clear hF43
  refine s1 hF45 2 (.int .i64 (w64 ((w64 ((w64 (256 - u0.Sent)) + 7)).tdiv 8))) ?_; intro a46 hF47; clear hF45
  refine s1 hF47 3 (.int .i64 0) ?_; intro a48 hF49; clear hF47
  refine nlH (hQ35 _ _ ?_); clear hQ35 hQ35Q
  refine wp_ret ?_
  refine rt (fn := Try.f16) (v := .tuple #[.int .i64 (w64 ((w64 ((w64 (256 - u0.Sent)) + 7)).tdiv 8)), .int .i64 0]) hF49 (re2 hF49 (fn := Try.f16) rfl (by kernel_rfl) (by kernel_rfl)) ?_
  exact ⟨(w64 ((w64 ((w64 (256 - u0.Sent)) + 7)).tdiv 8), 0), rfl, hp34, hM17.below⟩
theorem hTill_fun (u0 : Health)  (Z : Fz) (w : World)  (hZ : Z.on w) : Calls Try.prog 16 #[.agg #[.int .i64 u0.Sent, .int .i64 u0.Got, .int .i64 u0.Rest]] w fun e w' => e = .returned (.tuple #[.int .i64 ((hTill u0).1), .int .i64 ((hTill u0).2)]) ∧ Below w.heap.size w w' :=
  (hTill_walk u0  Z w  hZ (hTill_ok u0)).mono fun _ _ ⟨r, he, hk, hb⟩ => ⟨by subst hk; exact he, hb⟩

set_option maxRecDepth 100000 in
theorem chin_walk (u0 : Int) (u1 : Int)  (Z : Fz) (w : World)  (hZ : Z.on w) {K : Bool → Prop} (hp : chin_vc u0 u1 K) : Calls Try.prog 19 #[.int .i64 u0, .int .i64 u1] w fun e w' => ∃ r : Bool, e = .returned (.bool r) ∧ K r ∧ Below w.heap.size w w' := by
 refine enter0 Try.func19 rfl rfl (by kernel_rfl) ?_; intro a0 hF0; have hM0 := Mem.start w Z hZ; have hle0 := Fz.le.refl Z
 refine sqH ?_; intro hQ1Q hQ1
 refine s1 hF0 4 (.bool false) ?_; intro a2 hF3; clear hF0
 refine nlH (hQ1 _ _ ?_); clear hQ1 hQ1Q
 refine sqH ?_; intro hQ4Q hQ4
 refine s1 hF3 5 (.int .i64 u0) ?_; intro a5 hF6; clear hF3
 refine s1 hF6 6 (.bool (decide (u0 ≥ 0))) ?_; intro a7 hF8; clear hF6
 refine s1 hF8 7 (.bool (decide (u0 ≥ 0))) ?_; intro a9 hF10; clear hF8
 have hF11 := hF10.atom ((decide (u0 ≥ 0)) == true) (by kernel_rfl); clear hF10
 refine gp hF11 8 0 [] (decide (u0 ≥ 0)) (.int .i64 u0) rfl rfl ?_; intro a12 hF13; clear hF11
 refine gp hF13 9 0 [] (decide (u0 ≥ 0)) (.int .i64 u1) rfl rfl ?_; intro a14 hF15; clear hF13
 refine gp hF15 10 0 [] (decide (u0 ≥ 0)) (.bool (decide (u0 ≤ u1))) rfl rfl ?_; intro a16 hF17; clear hF15
 refine st hF17 (.bool ((decide (u0 ≥ 0)) && (decide (u0 ≤ u1)))) (nog rfl _) rfl (by kernel_rfl) (pk_and hF17 (g := []) (m := 0) (b := decide (u0 ≥ 0)) (v := decide (u0 ≤ u1)) rfl (by kernel_rfl) (by kernel_rfl) (by kernel_rfl) rfl) ?_; intro a18 hF19; clear hF17
 refine s1 hF19 4 (.bool ((decide (u0 ≥ 0)) && (decide (u0 ≤ u1)))) ?_; intro a20 hF21; clear hF19
 refine nlH (hQ4 _ _ ?_); clear hQ4 hQ4Q
 refine wp_ret ?_
 refine rt (fn := Try.f19) (v := .bool ((decide (u0 ≥ 0)) && (decide (u0 ≤ u1)))) hF21 (re1 hF21 (fn := Try.f19) rfl (by kernel_rfl)) ?_
 exact ⟨(decide (u0 ≥ 0)) && (decide (u0 ≤ u1)), rfl, hp, hM0.below⟩
theorem chin_fun (u0 : Int) (u1 : Int)  (Z : Fz) (w : World)  (hZ : Z.on w) : Calls Try.prog 19 #[.int .i64 u0, .int .i64 u1] w fun e w' => e = .returned (.bool (chin u0 u1)) ∧ Below w.heap.size w w' :=
  (chin_walk u0 u1  Z w  hZ (chin_ok u0 u1)).mono fun _ _ ⟨r, he, hk, hb⟩ => ⟨by subst hk; exact he, hb⟩

set_option maxRecDepth 100000 in
theorem rcheckh_walk (u0 : Health)  (Z : Fz) (w : World)  (hZ : Z.on w) {K : Int → Prop} (hp : rcheckh_vc u0 K) : Calls Try.prog 10 #[.agg #[.int .i64 u0.Sent, .int .i64 u0.Got, .int .i64 u0.Rest]] w fun e w' => ∃ r : Int, e = .returned (.int .i64 r) ∧ K r ∧ Below w.heap.size w w' := by
 refine enter0 Try.func10 rfl rfl (by kernel_rfl) ?_; intro a0 hF0; have hM0 := Mem.start w Z hZ; have hle0 := Fz.le.refl Z
 refine sqH ?_; intro hQ1Q hQ1
 refine sn hF0 hM0 (fun b => .pointer (some ⟨b, 0, none⟩)) [.int .i64 u0.Sent, .int .i64 u0.Got, .int .i64 u0.Rest] 28 (nog rfl _) rfl (by kernel_rfl) (by kernel_rfl) ?_; intro b2 a3 wd5 hF4 hM6; clear hF0 hM0
 refine s1 hF4 2 (.int .i64 0) ?_; intro a7 hF8; clear hF4
 refine nlH (hQ1 _ _ ?_); clear hQ1 hQ1Q
 refine sqH ?_; intro hQ9Q hQ9
 refine s1 hF8 3 (.func (.func 19) #[] #[]) ?_; intro a10 hF11; clear hF8
 refine nlH (hQ9 _ _ ?_); clear hQ9 hQ9Q
 refine wp_seq ?_
 refine sqH ?_; intro hQ12Q hQ12
 refine s1 hF11 4 (.func (.func 19) #[] #[]) ?_; intro a13 hF14; clear hF11
 refine s1 hF14 5 (.pointer (some ⟨b2, 0, none⟩)) ?_; intro a15 hF16; clear hF14
 refine l1 hF16 hM6 6 0 0 (.int .i64 u0.Sent) rfl rfl ?_; intro a17 hF18; clear hF16
 refine fcl hF18 hM6 (.bool (chin u0.Sent 256)) 19 #[.int .i64 u0.Sent, .int .i64 256] (nog rfl _) rfl (by kernel_rfl) (fun _ => by kernel_rfl) (chin_fun u0.Sent 256 _ _ hM6.fz) ?_; intro a19 wd21 hF20 hM22; clear hF18 hM6
 refine s1 hF20 8 (.bool (!(chin u0.Sent 256))) ?_; intro a23 hF24; clear hF20
 refine s1 hF24 9 (.bool (!(chin u0.Sent 256))) ?_; intro a25 hF26; clear hF24
 have hF27 := hF26.atom ((!(chin u0.Sent 256)) == false) (by kernel_rfl); clear hF26
 refine gp hF27 10 0 [] (!(chin u0.Sent 256)) (.func (.func 19) #[] #[]) rfl rfl ?_; intro a28 hF29; clear hF27
 refine gp hF29 11 0 [] (!(chin u0.Sent 256)) (.pointer (some ⟨b2, 1, none⟩)) rfl rfl ?_; intro a30 hF31; clear hF29
 refine gd hF31 (.int .i64 u0.Got) (m := 0) (cj := []) (bj := !(chin u0.Sent 256)) rfl rfl (by kernel_rfl) rfl (by kernel_rfl) (by kernel_rfl) (by kernel_rfl) (fun hg => ld hF31 hM22 0 (g := [0]) (b := b2) (off := 1) (cs := [.int .i64 u0.Sent, .int .i64 u0.Got, .int .i64 u0.Rest]) (ty := 28) rfl (by kernel_rfl) (by kernel_rfl) (by kernel_rfl) (by kernel_rfl) hg) ?_; intro a32 hF33; clear hF31
 refine gcl hF33 hM22 (.bool (chin u0.Got 255)) 19 #[.int .i64 u0.Got, .int .i64 255] (m := 0) (cj := []) (bj := !(chin u0.Sent 256)) rfl rfl (by kernel_rfl) rfl (by kernel_rfl) (by kernel_rfl) (by kernel_rfl) (fun _ => by kernel_rfl) (fun hg => chin_fun u0.Got 255 _ _ hM22.fz) ?_; intro a34 wd36 hF35 hM37; clear hF33 hM22
 refine gp hF35 14 0 [] (!(chin u0.Sent 256)) (.bool (!(chin u0.Got 255))) rfl rfl ?_; intro a38 hF39; clear hF35
 refine st hF39 (.bool ((!(chin u0.Sent 256)) || (!(chin u0.Got 255)))) (nog rfl _) rfl (by kernel_rfl) (pk_or hF39 (g := []) (m := 0) (b := !(chin u0.Sent 256)) (v := !(chin u0.Got 255)) rfl (by kernel_rfl) (by kernel_rfl) (by kernel_rfl) rfl) ?_; intro a40 hF41; clear hF39
 refine s1 hF41 16 (.bool ((!(chin u0.Sent 256)) || (!(chin u0.Got 255)))) ?_; intro a42 hF43; clear hF41
 have hF44 := hF43.atom (((!(chin u0.Sent 256)) || (!(chin u0.Got 255))) == false) (by kernel_rfl); clear hF43
 refine gp hF44 17 1 [] ((!(chin u0.Sent 256)) || (!(chin u0.Got 255))) (.func (.func 19) #[] #[]) rfl rfl ?_; intro a45 hF46; clear hF44
 refine gp hF46 18 1 [] ((!(chin u0.Sent 256)) || (!(chin u0.Got 255))) (.pointer (some ⟨b2, 2, none⟩)) rfl rfl ?_; intro a47 hF48; clear hF46
 refine gd hF48 (.int .i64 u0.Rest) (m := 1) (cj := []) (bj := (!(chin u0.Sent 256)) || (!(chin u0.Got 255))) rfl rfl (by kernel_rfl) rfl (by kernel_rfl) (by kernel_rfl) (by kernel_rfl) (fun hg => ld hF48 hM37 0 (g := [1]) (b := b2) (off := 2) (cs := [.int .i64 u0.Sent, .int .i64 u0.Got, .int .i64 u0.Rest]) (ty := 28) rfl (by kernel_rfl) (by kernel_rfl) (by kernel_rfl) (by kernel_rfl) hg) ?_; intro a49 hF50; clear hF48
 refine gcl hF50 hM37 (.bool (chin u0.Rest 127)) 19 #[.int .i64 u0.Rest, .int .i64 127] (m := 1) (cj := []) (bj := (!(chin u0.Sent 256)) || (!(chin u0.Got 255))) rfl rfl (by kernel_rfl) rfl (by kernel_rfl) (by kernel_rfl) (by kernel_rfl) (fun _ => by kernel_rfl) (fun hg => chin_fun u0.Rest 127 _ _ hM37.fz) ?_; intro a51 wd53 hF52 hM54; clear hF50 hM37
 refine gp hF52 21 1 [] ((!(chin u0.Sent 256)) || (!(chin u0.Got 255))) (.bool (!(chin u0.Rest 127))) rfl rfl ?_; intro a55 hF56; clear hF52
 refine st hF56 (.bool (((!(chin u0.Sent 256)) || (!(chin u0.Got 255))) || (!(chin u0.Rest 127)))) (nog rfl _) rfl (by kernel_rfl) (pk_or hF56 (g := []) (m := 1) (b := (!(chin u0.Sent 256)) || (!(chin u0.Got 255))) (v := !(chin u0.Rest 127)) rfl (by kernel_rfl) (by kernel_rfl) (by kernel_rfl) rfl) ?_; intro a57 hF58; clear hF56
 refine s1 hF58 23 (.bool (((!(chin u0.Sent 256)) || (!(chin u0.Got 255))) || (!(chin u0.Rest 127)))) ?_; intro a59 hF60; clear hF58
 have hF61 := hF60.atom ((((!(chin u0.Sent 256)) || (!(chin u0.Got 255))) || (!(chin u0.Rest 127))) == false) (by kernel_rfl); clear hF60
 refine gp hF61 24 2 [] (((!(chin u0.Sent 256)) || (!(chin u0.Got 255))) || (!(chin u0.Rest 127))) (.pointer (some ⟨b2, 0, none⟩)) rfl rfl ?_; intro a62 hF63; clear hF61
 refine gd hF63 (.int .i64 u0.Sent) (m := 2) (cj := []) (bj := ((!(chin u0.Sent 256)) || (!(chin u0.Got 255))) || (!(chin u0.Rest 127))) rfl rfl (by kernel_rfl) rfl (by kernel_rfl) (by kernel_rfl) (by kernel_rfl) (fun hg => ld hF63 hM54 0 (g := [2]) (b := b2) (off := 0) (cs := [.int .i64 u0.Sent, .int .i64 u0.Got, .int .i64 u0.Rest]) (ty := 28) rfl (by kernel_rfl) (by kernel_rfl) (by kernel_rfl) (by kernel_rfl) hg) ?_; intro a64 hF65; clear hF63
 refine gp hF65 26 2 [] (((!(chin u0.Sent 256)) || (!(chin u0.Got 255))) || (!(chin u0.Rest 127))) (.bool (u0.Sent != 256)) rfl rfl ?_; intro a66 hF67; clear hF65
 refine gp hF67 27 2 [] (((!(chin u0.Sent 256)) || (!(chin u0.Got 255))) || (!(chin u0.Rest 127))) (.bool (u0.Sent != 256)) rfl rfl ?_; intro a68 hF69; clear hF67
 have hF70 := hF69.atom ((u0.Sent != 256) == true) (by kernel_rfl); clear hF69
 refine gp hF70 28 3 [2] (u0.Sent != 256) (.pointer (some ⟨b2, 2, none⟩)) rfl rfl ?_; intro a71 hF72; clear hF70
 refine gd hF72 (.int .i64 u0.Rest) (m := 3) (cj := [2]) (bj := u0.Sent != 256) rfl rfl (by kernel_rfl) rfl (by kernel_rfl) (by kernel_rfl) (by kernel_rfl) (fun hg => ld hF72 hM54 0 (g := [3, 2]) (b := b2) (off := 2) (cs := [.int .i64 u0.Sent, .int .i64 u0.Got, .int .i64 u0.Rest]) (ty := 28) rfl (by kernel_rfl) (by kernel_rfl) (by kernel_rfl) (by kernel_rfl) hg) ?_; intro a73 hF74; clear hF72
 refine gp hF74 30 3 [2] (u0.Sent != 256) (.bool (u0.Rest != 0)) rfl rfl ?_; intro a75 hF76; clear hF74
 refine gd hF76 (.bool ((u0.Sent != 256) && (u0.Rest != 0))) (m := 2) (cj := []) (bj := ((!(chin u0.Sent 256)) || (!(chin u0.Got 255))) || (!(chin u0.Rest 127))) rfl rfl (by kernel_rfl) rfl (by kernel_rfl) (by kernel_rfl) (by kernel_rfl) (fun hg => pk_and hF76 (g := [2]) (m := 3) (b := u0.Sent != 256) (v := u0.Rest != 0) rfl (by kernel_rfl) (by kernel_rfl) (by kernel_rfl) hg) ?_; intro a77 hF78; clear hF76
 refine st hF78 (.bool ((((!(chin u0.Sent 256)) || (!(chin u0.Got 255))) || (!(chin u0.Rest 127))) || ((u0.Sent != 256) && (u0.Rest != 0)))) (nog rfl _) rfl (by kernel_rfl) (pk_or hF78 (g := []) (m := 2) (b := ((!(chin u0.Sent 256)) || (!(chin u0.Got 255))) || (!(chin u0.Rest 127))) (v := (u0.Sent != 256) && (u0.Rest != 0)) rfl (by kernel_rfl) (by kernel_rfl) (by kernel_rfl) rfl) ?_; intro a79 hF80; clear hF78
 refine nlH (hQ12 _ _ ?_); clear hQ12 hQ12Q
 refine cd hF80 (t := (((!(chin u0.Sent 256)) || (!(chin u0.Got 255))) || (!(chin u0.Rest 127))) || ((u0.Sent != 256) && (u0.Rest != 0))) (by kernel_rfl) (fun hb81 => ?_) (fun hb81 => ?_)
 · -- yes
  have hp82 := hp.1 hb81; clear hp
  have hF83 : Fr 33 [] [] a79 := hF80.region (by kernel_rfl) (by kernel_rfl); clear hF80
  refine sqH ?_; intro hQ84Q hQ84
  refine s1 hF83 2 (.int .i64 3) ?_; intro a85 hF86; clear hF83
  refine nlH (hQ84 _ _ ?_); clear hQ84 hQ84Q
  refine wp_ret ?_
  refine thr ?_
  refine rt (fn := Try.f10) (v := .int .i64 3) hF86 (re1 hF86 (fn := Try.f10) rfl (by kernel_rfl)) ?_
  exact ⟨3, rfl, hp82, hM54.below⟩
 · -- no
  have hp87 := hp.2 hb81; clear hp
  refine wp_skip ?_
  refine thn ?_
  have hF88 : Fr 33 [] [] a79 := hF80.region (by kernel_rfl) (by kernel_rfl); clear hF80
  refine sqH ?_; intro hQ89Q hQ89
  refine s1 hF88 2 (.int .i64 0) ?_; intro a90 hF91; clear hF88
  refine nlH (hQ89 _ _ ?_); clear hQ89 hQ89Q
  refine wp_ret ?_
  refine rt (fn := Try.f10) (v := .int .i64 0) hF91 (re1 hF91 (fn := Try.f10) rfl (by kernel_rfl)) ?_
  exact ⟨0, rfl, hp87, hM54.below⟩
theorem rcheckh_fun (u0 : Health)  (Z : Fz) (w : World)  (hZ : Z.on w) : Calls Try.prog 10 #[.agg #[.int .i64 u0.Sent, .int .i64 u0.Got, .int .i64 u0.Rest]] w fun e w' => e = .returned (.int .i64 (rcheckh u0)) ∧ Below w.heap.size w w' :=
  (rcheckh_walk u0  Z w  hZ (rcheckh_ok u0)).mono fun _ _ ⟨r, he, hk, hb⟩ => ⟨by subst hk; exact he, hb⟩

set_option maxRecDepth 100000 in
theorem rstate_walk (u0 : Health)  (Z : Fz) (w : World)  (hZ : Z.on w) {K : Int → Prop} (hp : rstate_vc u0 K) : Calls Try.prog 13 #[.agg #[.int .i64 u0.Sent, .int .i64 u0.Got, .int .i64 u0.Rest]] w fun e w' => ∃ r : Int, e = .returned (.int .i64 r) ∧ K r ∧ Below w.heap.size w w' := by
 refine enter0 Try.func13 rfl rfl (by kernel_rfl) ?_; intro a0 hF0; have hM0 := Mem.start w Z hZ; have hle0 := Fz.le.refl Z
 refine sqH ?_; intro hQ1Q hQ1
 refine sn hF0 hM0 (fun b => .pointer (some ⟨b, 0, none⟩)) [.int .i64 u0.Sent, .int .i64 u0.Got, .int .i64 u0.Rest] 28 (nog rfl _) rfl (by kernel_rfl) (by kernel_rfl) ?_; intro b2 a3 wd5 hF4 hM6; clear hF0 hM0
 refine s1 hF4 2 (.int .i64 0) ?_; intro a7 hF8; clear hF4
 refine nlH (hQ1 _ _ ?_); clear hQ1 hQ1Q
 refine wp_seq ?_
 refine sqH ?_; intro hQ9Q hQ9
 refine s1 hF8 3 (.pointer (some ⟨b2, 0, none⟩)) ?_; intro a10 hF11; clear hF8
 refine l1 hF11 hM6 4 0 0 (.int .i64 u0.Sent) rfl rfl ?_; intro a12 hF13; clear hF11
 refine s1 hF13 5 (.bool (u0.Sent == 256)) ?_; intro a14 hF15; clear hF13
 refine nlH (hQ9 _ _ ?_); clear hQ9 hQ9Q
 refine cd hF15 (t := u0.Sent == 256) (by kernel_rfl) (fun hb16 => ?_) (fun hb16 => ?_)
 · -- yes
  have hp17 := hp.1 hb16; clear hp
  refine sqH ?_; intro hQ18Q hQ18
  refine s1 hF15 2 (.int .i64 2) ?_; intro a19 hF20; clear hF15
  refine nlH (hQ18 _ _ ?_); clear hQ18 hQ18Q
  refine wp_ret ?_
  refine thr ?_
  refine rt (fn := Try.f13) (v := .int .i64 2) hF20 (re1 hF20 (fn := Try.f13) rfl (by kernel_rfl)) ?_
  exact ⟨2, rfl, hp17, hM6.below⟩
 · -- no
  have hp21 := hp.2 hb16; clear hp
  refine wp_skip ?_
  refine thn ?_
  refine wp_seq ?_
  refine sqH ?_; intro hQ22Q hQ22
  refine s1 hF15 6 (.pointer (some ⟨b2, 0, none⟩)) ?_; intro a23 hF24; clear hF15
  refine l1 hF24 hM6 7 0 0 (.int .i64 u0.Sent) rfl rfl ?_; intro a25 hF26; clear hF24
  refine s1 hF26 8 (.pointer (some ⟨b2, 1, none⟩)) ?_; intro a27 hF28; clear hF26
  refine l1 hF28 hM6 9 0 1 (.int .i64 u0.Got) rfl rfl ?_; intro a29 hF30; clear hF28
  refine st hF30 (.int .i64 (max u0.Sent u0.Got)) (nog rfl _) rfl (by kernel_rfl) (re_ (p0 hF30 (r := .ok (.value (.int .i64 (if u0.Sent < u0.Got then u0.Got else u0.Sent))) wd5) (by kernel_rfl)) (by rw [imax])) ?_; intro a31 hF32; clear hF30
  refine s1 hF32 11 (.bool (decide ((max u0.Sent u0.Got) ≥ 128))) ?_; intro a33 hF34; clear hF32
  refine nlH (hQ22 _ _ ?_); clear hQ22 hQ22Q
  refine cd hF34 (t := decide ((max u0.Sent u0.Got) ≥ 128)) (by kernel_rfl) (fun hb35 => ?_) (fun hb35 => ?_)
  · -- yes
   have hp36 := hp21.1 hb35; clear hp21
   refine sqH ?_; intro hQ37Q hQ37
   refine s1 hF34 2 (.int .i64 1) ?_; intro a38 hF39; clear hF34
   refine nlH (hQ37 _ _ ?_); clear hQ37 hQ37Q
   refine wp_ret ?_
   refine thr ?_
   refine rt (fn := Try.f13) (v := .int .i64 1) hF39 (re1 hF39 (fn := Try.f13) rfl (by kernel_rfl)) ?_
   exact ⟨1, rfl, hp36, hM6.below⟩
  · -- no
   have hp40 := hp21.2 hb35; clear hp21
   refine wp_skip ?_
   refine thn ?_
   refine sqH ?_; intro hQ41Q hQ41
   refine s1 hF34 2 (.int .i64 0) ?_; intro a42 hF43; clear hF34
   refine nlH (hQ41 _ _ ?_); clear hQ41 hQ41Q
   refine wp_ret ?_
   refine rt (fn := Try.f13) (v := .int .i64 0) hF43 (re1 hF43 (fn := Try.f13) rfl (by kernel_rfl)) ?_
   exact ⟨0, rfl, hp40, hM6.below⟩
theorem rstate_fun (u0 : Health)  (Z : Fz) (w : World)  (hZ : Z.on w) : Calls Try.prog 13 #[.agg #[.int .i64 u0.Sent, .int .i64 u0.Got, .int .i64 u0.Rest]] w fun e w' => e = .returned (.int .i64 (rstate u0)) ∧ Below w.heap.size w w' :=
  (rstate_walk u0  Z w  hZ (rstate_ok u0)).mono fun _ _ ⟨r, he, hk, hb⟩ => ⟨by subst hk; exact he, hb⟩

set_option maxRecDepth 100000 in
theorem rstep_walk (u0 : Health) (u1 : Int)  (Z : Fz) (w : World)  (hZ : Z.on w) {K : (Health × Bool) → Prop} (hp : rstep_vc u0 u1 K) : Calls Try.prog 14 #[.agg #[.int .i64 u0.Sent, .int .i64 u0.Got, .int .i64 u0.Rest], .int .i64 u1] w fun e w' => ∃ r : Health × Bool, e = .returned (.tuple #[.agg #[.int .i64 r.1.Sent, .int .i64 r.1.Got, .int .i64 r.1.Rest], .bool r.2]) ∧ K r ∧ Below w.heap.size w w' := by
 refine enter0 Try.func14 rfl rfl (by kernel_rfl) ?_; intro a0 hF0; have hM0 := Mem.start w Z hZ; have hle0 := Fz.le.refl Z
 refine sqH ?_; intro hQ1Q hQ1
 refine sn hF0 hM0 (fun b => .pointer (some ⟨b, 0, none⟩)) [.int .i64 u0.Sent, .int .i64 u0.Got, .int .i64 u0.Rest] 28 (nog rfl _) rfl (by kernel_rfl) (by kernel_rfl) ?_; intro b2 a3 wd5 hF4 hM6; clear hF0 hM0
 refine sn hF4 hM6 (fun b => .pointer (some ⟨b, 0, none⟩)) [.int .i64 0, .int .i64 0, .int .i64 0] 28 (nog rfl _) rfl (by kernel_rfl) (by kernel_rfl) ?_; intro b7 a8 wd10 hF9 hM11; clear hF4 hM6
 refine s1 hF9 5 (.bool false) ?_; intro a12 hF13; clear hF9
 refine nlH (hQ1 _ _ ?_); clear hQ1 hQ1Q
 refine wp_seq ?_
 refine sqH ?_; intro hQ14Q hQ14
 refine s1 hF13 6 (.int .i64 u1) ?_; intro a15 hF16; clear hF13
 refine s1 hF16 7 (.bool (decide (u1 < 1))) ?_; intro a17 hF18; clear hF16
 refine s1 hF18 8 (.bool (decide (u1 < 1))) ?_; intro a19 hF20; clear hF18
 have hF21 := hF20.atom ((decide (u1 < 1)) == false) (by kernel_rfl); clear hF20
 refine gp hF21 9 0 [] (decide (u1 < 1)) (.int .i64 u1) rfl rfl ?_; intro a22 hF23; clear hF21
 refine gp hF23 10 0 [] (decide (u1 < 1)) (.bool (decide (u1 > 6))) rfl rfl ?_; intro a24 hF25; clear hF23
 refine st hF25 (.bool ((decide (u1 < 1)) || (decide (u1 > 6)))) (nog rfl _) rfl (by kernel_rfl) (pk_or hF25 (g := []) (m := 0) (b := decide (u1 < 1)) (v := decide (u1 > 6)) rfl (by kernel_rfl) (by kernel_rfl) (by kernel_rfl) rfl) ?_; intro a26 hF27; clear hF25
 refine nlH (hQ14 _ _ ?_); clear hQ14 hQ14Q
 refine cd hF27 (t := (decide (u1 < 1)) || (decide (u1 > 6))) (by kernel_rfl) (fun hb28 => ?_) (fun hb28 => ?_)
 · -- yes
  have hp29 := hp.1 hb28; clear hp
  have hF30 : Fr 80 [] [⟨4, [], .pointer (some ⟨b7, 0, none⟩)⟩] a26 := hF27.region (by kernel_rfl) (by kernel_rfl); clear hF27
  refine sqH ?_; intro hQ31Q hQ31
  refine s1 hF30 12 (.agg #[.int .i64 0, .int .i64 0, .int .i64 0]) ?_; intro a32 hF33; clear hF30
  refine sr hF33 hM11 0 [.int .i64 0, .int .i64 0, .int .i64 0] (b := b7) (off := 0) (cs := [.int .i64 0, .int .i64 0, .int .i64 0]) (ty := 28) (u := .agg #[.int .i64 0, .int .i64 0, .int .i64 0]) (nog rfl _) rfl rfl (by kernel_rfl) (by kernel_rfl) (by kernel_rfl) (by kernel_rfl) (by kernel_rfl) (by kernel_rfl) (by kernel_rfl) ?_; intro wd34 hM35; clear hM11
  refine s1 hF33 5 (.bool false) ?_; intro a36 hF37; clear hF33
  have hM38 : Mem w.heap.size [] w Z [.row b7 [.int .i64 0, .int .i64 0, .int .i64 0] 28, .row b2 [.int .i64 u0.Sent, .int .i64 u0.Got, .int .i64 u0.Rest] 28] Z wd34 := hM35; clear hM35
  refine nlH (hQ31 _ _ ?_); clear hQ31 hQ31Q
  refine wp_ret ?_
  refine thr ?_
  refine rt (fn := Try.f14) (v := .tuple #[.agg #[.int .i64 0, .int .i64 0, .int .i64 0], .bool false]) hF37 (re2c hF37 (fn := Try.f14) rfl (ad := ⟨b7, 0, none⟩) (by kernel_rfl) (loadVar_run hM38 0 (b := b7) (k := 3) (vs := [.int .i64 0, .int .i64 0, .int .i64 0]) (ty := 28) rfl (by kernel_rfl) (by kernel_rfl)) (by kernel_rfl)) ?_
  exact ⟨((⟨0, 0, 0⟩ : Health), false), rfl, hp29, hM38.below⟩
 · -- no
  have hp39 := hp.2 hb28; clear hp
  refine wp_skip ?_
  refine thn ?_
  refine wp_seq ?_
  have hF40 : Fr 80 [] [⟨1, [], .int .i64 u1⟩, ⟨2, [], .pointer (some ⟨b2, 0, none⟩)⟩, ⟨4, [], .pointer (some ⟨b7, 0, none⟩)⟩] a26 := hF27.region (by kernel_rfl) (by kernel_rfl); clear hF27
  refine sqH ?_; intro hQ41Q hQ41
  refine s1 hF40 13 (.pointer (some ⟨b2, 0, none⟩)) ?_; intro a42 hF43; clear hF40
  refine l1 hF43 hM11 14 1 0 (.int .i64 u0.Sent) rfl rfl ?_; intro a44 hF45; clear hF43
  refine s1 hF45 15 (.bool (u0.Sent == 256)) ?_; intro a46 hF47; clear hF45
  refine nlH (hQ41 _ _ ?_); clear hQ41 hQ41Q
  refine cd hF47 (t := u0.Sent == 256) (by kernel_rfl) (fun hb48 => ?_) (fun hb48 => ?_)
  · -- yes
   have hp49 := hp39.1 hb48; clear hp39
   refine wp_seq ?_
   refine sqH ?_; intro hQ50Q hQ50
   refine s1 hF47 16 (.int .i64 u1) ?_; intro a51 hF52; clear hF47
   refine s1 hF52 17 (.bool (u1 == 6)) ?_; intro a53 hF54; clear hF52
   refine nlH (hQ50 _ _ ?_); clear hQ50 hQ50Q
   refine cd hF54 (t := u1 == 6) (by kernel_rfl) (fun hb55 => ?_) (fun hb55 => ?_)
   · -- yes
    have hp56 := hp49.1 hb55; clear hp49
    refine rgH ?_; intro hQ57Q hQ57
    refine s1 hF54 18 (.pointer (some ⟨b2, 2, none⟩)) ?_; intro a58 hF59; clear hF54
    refine l1 hF59 hM11 19 1 2 (.int .i64 u0.Rest) rfl rfl ?_; intro a60 hF61; clear hF59
    refine s1 hF61 20 (.int .i64 (w64 (u0.Rest + 1))) ?_; intro a62 hF63; clear hF61
    refine s1 hF63 21 (.pointer (some ⟨b2, 2, none⟩)) ?_; intro a64 hF65; clear hF63
    refine sr hF65 hM11 1 [.int .i64 u0.Sent, .int .i64 u0.Got, .int .i64 (w64 (u0.Rest + 1))] (b := b2) (off := 2) (cs := [.int .i64 u0.Sent, .int .i64 u0.Got, .int .i64 u0.Rest]) (ty := 28) (u := .int .i64 (w64 (u0.Rest + 1))) (nog rfl _) rfl rfl (by kernel_rfl) (by kernel_rfl) (by kernel_rfl) (by kernel_rfl) (by kernel_rfl) (by kernel_rfl) (by kernel_rfl) ?_; intro wd66 hM67; clear hM11
    have hM68 : Mem w.heap.size [] w Z [.row b7 [.int .i64 0, .int .i64 0, .int .i64 0] 28, .row b2 [.int .i64 u0.Sent, .int .i64 u0.Got, .int .i64 (w64 (u0.Rest + 1))] 28] Z wd66 := hM67; clear hM67
    refine nlH (hQ57 _ _ ?_); clear hQ57 hQ57Q
    refine thn ?_
    refine wp_seq ?_
    refine sqH ?_; intro hQ69Q hQ69
    refine s1 hF65 22 (.pointer (some ⟨b2, 2, none⟩)) ?_; intro a70 hF71; clear hF65
    refine l1 hF71 hM68 23 1 2 (.int .i64 (w64 (u0.Rest + 1))) rfl rfl ?_; intro a72 hF73; clear hF71
    refine s1 hF73 24 (.bool ((w64 (u0.Rest + 1)) == 128)) ?_; intro a74 hF75; clear hF73
    refine nlH (hQ69 _ _ ?_); clear hQ69 hQ69Q
    refine cd hF75 (t := (w64 (u0.Rest + 1)) == 128) (by kernel_rfl) (fun hb76 => ?_) (fun hb76 => ?_)
    · -- yes
     have hp77 := hp56.1 hb76; clear hp56
     refine rgH ?_; intro hQ78Q hQ78
     refine s1 hF75 25 (.agg #[.int .i64 0, .int .i64 0, .int .i64 0]) ?_; intro a79 hF80; clear hF75
     refine sr hF80 hM68 1 [.int .i64 0, .int .i64 0, .int .i64 0] (b := b2) (off := 0) (cs := [.int .i64 u0.Sent, .int .i64 u0.Got, .int .i64 (w64 (u0.Rest + 1))]) (ty := 28) (u := .agg #[.int .i64 0, .int .i64 0, .int .i64 0]) (nog rfl _) rfl rfl (by kernel_rfl) (by kernel_rfl) (by kernel_rfl) (by kernel_rfl) (by kernel_rfl) (by kernel_rfl) (by kernel_rfl) ?_; intro wd81 hM82; clear hM68
     have hM83 : Mem w.heap.size [] w Z [.row b7 [.int .i64 0, .int .i64 0, .int .i64 0] 28, .row b2 [.int .i64 0, .int .i64 0, .int .i64 0] 28] Z wd81 := hM82; clear hM82
     refine nlH (hQ78 _ _ ?_); clear hQ78 hQ78Q
     refine thn ?_
     refine sqH ?_; intro hQ84Q hQ84
     refine l2 hF80 hM83 26 1 0 3 [.int .i64 0, .int .i64 0, .int .i64 0] rfl rfl ?_; intro a85 hF86; clear hF80
     refine sr hF86 hM83 0 [.int .i64 0, .int .i64 0, .int .i64 0] (b := b7) (off := 0) (cs := [.int .i64 0, .int .i64 0, .int .i64 0]) (ty := 28) (u := .agg #[.int .i64 0, .int .i64 0, .int .i64 0]) (nog rfl _) rfl rfl (by kernel_rfl) (by kernel_rfl) (by kernel_rfl) (by kernel_rfl) (by kernel_rfl) (by kernel_rfl) (by kernel_rfl) ?_; intro wd87 hM88; clear hM83
     refine s1 hF86 5 (.bool true) ?_; intro a89 hF90; clear hF86
     have hM91 : Mem w.heap.size [] w Z [.row b7 [.int .i64 0, .int .i64 0, .int .i64 0] 28, .row b2 [.int .i64 0, .int .i64 0, .int .i64 0] 28] Z wd87 := hM88; clear hM88
     refine nlH (hQ84 _ _ ?_); clear hQ84 hQ84Q
     refine wp_ret ?_
     refine thr ?_
     refine rt (fn := Try.f14) (v := .tuple #[.agg #[.int .i64 0, .int .i64 0, .int .i64 0], .bool true]) hF90 (re2c hF90 (fn := Try.f14) rfl (ad := ⟨b7, 0, none⟩) (by kernel_rfl) (loadVar_run hM91 0 (b := b7) (k := 3) (vs := [.int .i64 0, .int .i64 0, .int .i64 0]) (ty := 28) rfl (by kernel_rfl) (by kernel_rfl)) (by kernel_rfl)) ?_
     exact ⟨((⟨0, 0, 0⟩ : Health), true), rfl, hp77, hM91.below⟩
    · -- no
     have hp92 := hp56.2 hb76; clear hp56
     refine wp_skip ?_
     refine thn ?_
     refine sqH ?_; intro hQ93Q hQ93
     refine l2 hF75 hM68 26 1 0 3 [.int .i64 u0.Sent, .int .i64 u0.Got, .int .i64 (w64 (u0.Rest + 1))] rfl rfl ?_; intro a94 hF95; clear hF75
     refine sr hF95 hM68 0 [.int .i64 u0.Sent, .int .i64 u0.Got, .int .i64 (w64 (u0.Rest + 1))] (b := b7) (off := 0) (cs := [.int .i64 0, .int .i64 0, .int .i64 0]) (ty := 28) (u := .agg #[.int .i64 u0.Sent, .int .i64 u0.Got, .int .i64 (w64 (u0.Rest + 1))]) (nog rfl _) rfl rfl (by kernel_rfl) (by kernel_rfl) (by kernel_rfl) (by kernel_rfl) (by kernel_rfl) (by kernel_rfl) (by kernel_rfl) ?_; intro wd96 hM97; clear hM68
     refine s1 hF95 5 (.bool true) ?_; intro a98 hF99; clear hF95
     have hM100 : Mem w.heap.size [] w Z [.row b7 [.int .i64 u0.Sent, .int .i64 u0.Got, .int .i64 (w64 (u0.Rest + 1))] 28, .row b2 [.int .i64 u0.Sent, .int .i64 u0.Got, .int .i64 (w64 (u0.Rest + 1))] 28] Z wd96 := hM97; clear hM97
     refine nlH (hQ93 _ _ ?_); clear hQ93 hQ93Q
     refine wp_ret ?_
     refine thr ?_
     refine rt (fn := Try.f14) (v := .tuple #[.agg #[.int .i64 u0.Sent, .int .i64 u0.Got, .int .i64 (w64 (u0.Rest + 1))], .bool true]) hF99 (re2c hF99 (fn := Try.f14) rfl (ad := ⟨b7, 0, none⟩) (by kernel_rfl) (loadVar_run hM100 0 (b := b7) (k := 3) (vs := [.int .i64 u0.Sent, .int .i64 u0.Got, .int .i64 (w64 (u0.Rest + 1))]) (ty := 28) rfl (by kernel_rfl) (by kernel_rfl)) (by kernel_rfl)) ?_
     exact ⟨((⟨u0.Sent, u0.Got, w64 (u0.Rest + 1)⟩ : Health), true), rfl, hp92, hM100.below⟩
   · -- no
    have hp101 := hp49.2 hb55; clear hp49
    refine wp_skip ?_
    refine thn ?_
    refine wp_seq ?_
    refine sqH ?_; intro hQ102Q hQ102
    refine s1 hF54 22 (.pointer (some ⟨b2, 2, none⟩)) ?_; intro a103 hF104; clear hF54
    refine l1 hF104 hM11 23 1 2 (.int .i64 u0.Rest) rfl rfl ?_; intro a105 hF106; clear hF104
    refine s1 hF106 24 (.bool (u0.Rest == 128)) ?_; intro a107 hF108; clear hF106
    refine nlH (hQ102 _ _ ?_); clear hQ102 hQ102Q
    refine cd hF108 (t := u0.Rest == 128) (by kernel_rfl) (fun hb109 => ?_) (fun hb109 => ?_)
    · -- yes
     have hp110 := hp101.1 hb109; clear hp101
     refine rgH ?_; intro hQ111Q hQ111
     refine s1 hF108 25 (.agg #[.int .i64 0, .int .i64 0, .int .i64 0]) ?_; intro a112 hF113; clear hF108
     refine sr hF113 hM11 1 [.int .i64 0, .int .i64 0, .int .i64 0] (b := b2) (off := 0) (cs := [.int .i64 u0.Sent, .int .i64 u0.Got, .int .i64 u0.Rest]) (ty := 28) (u := .agg #[.int .i64 0, .int .i64 0, .int .i64 0]) (nog rfl _) rfl rfl (by kernel_rfl) (by kernel_rfl) (by kernel_rfl) (by kernel_rfl) (by kernel_rfl) (by kernel_rfl) (by kernel_rfl) ?_; intro wd114 hM115; clear hM11
     have hM116 : Mem w.heap.size [] w Z [.row b7 [.int .i64 0, .int .i64 0, .int .i64 0] 28, .row b2 [.int .i64 0, .int .i64 0, .int .i64 0] 28] Z wd114 := hM115; clear hM115
     refine nlH (hQ111 _ _ ?_); clear hQ111 hQ111Q
     refine thn ?_
     refine sqH ?_; intro hQ117Q hQ117
     refine l2 hF113 hM116 26 1 0 3 [.int .i64 0, .int .i64 0, .int .i64 0] rfl rfl ?_; intro a118 hF119; clear hF113
     refine sr hF119 hM116 0 [.int .i64 0, .int .i64 0, .int .i64 0] (b := b7) (off := 0) (cs := [.int .i64 0, .int .i64 0, .int .i64 0]) (ty := 28) (u := .agg #[.int .i64 0, .int .i64 0, .int .i64 0]) (nog rfl _) rfl rfl (by kernel_rfl) (by kernel_rfl) (by kernel_rfl) (by kernel_rfl) (by kernel_rfl) (by kernel_rfl) (by kernel_rfl) ?_; intro wd120 hM121; clear hM116
     refine s1 hF119 5 (.bool true) ?_; intro a122 hF123; clear hF119
     have hM124 : Mem w.heap.size [] w Z [.row b7 [.int .i64 0, .int .i64 0, .int .i64 0] 28, .row b2 [.int .i64 0, .int .i64 0, .int .i64 0] 28] Z wd120 := hM121; clear hM121
     refine nlH (hQ117 _ _ ?_); clear hQ117 hQ117Q
     refine wp_ret ?_
     refine thr ?_
     refine rt (fn := Try.f14) (v := .tuple #[.agg #[.int .i64 0, .int .i64 0, .int .i64 0], .bool true]) hF123 (re2c hF123 (fn := Try.f14) rfl (ad := ⟨b7, 0, none⟩) (by kernel_rfl) (loadVar_run hM124 0 (b := b7) (k := 3) (vs := [.int .i64 0, .int .i64 0, .int .i64 0]) (ty := 28) rfl (by kernel_rfl) (by kernel_rfl)) (by kernel_rfl)) ?_
     exact ⟨((⟨0, 0, 0⟩ : Health), true), rfl, hp110, hM124.below⟩
    · -- no
     have hp125 := hp101.2 hb109; clear hp101
     refine wp_skip ?_
     refine thn ?_
     refine sqH ?_; intro hQ126Q hQ126
     refine l2 hF108 hM11 26 1 0 3 [.int .i64 u0.Sent, .int .i64 u0.Got, .int .i64 u0.Rest] rfl rfl ?_; intro a127 hF128; clear hF108
     refine sr hF128 hM11 0 [.int .i64 u0.Sent, .int .i64 u0.Got, .int .i64 u0.Rest] (b := b7) (off := 0) (cs := [.int .i64 0, .int .i64 0, .int .i64 0]) (ty := 28) (u := .agg #[.int .i64 u0.Sent, .int .i64 u0.Got, .int .i64 u0.Rest]) (nog rfl _) rfl rfl (by kernel_rfl) (by kernel_rfl) (by kernel_rfl) (by kernel_rfl) (by kernel_rfl) (by kernel_rfl) (by kernel_rfl) ?_; intro wd129 hM130; clear hM11
     refine s1 hF128 5 (.bool true) ?_; intro a131 hF132; clear hF128
     have hM133 : Mem w.heap.size [] w Z [.row b7 [.int .i64 u0.Sent, .int .i64 u0.Got, .int .i64 u0.Rest] 28, .row b2 [.int .i64 u0.Sent, .int .i64 u0.Got, .int .i64 u0.Rest] 28] Z wd129 := hM130; clear hM130
     refine nlH (hQ126 _ _ ?_); clear hQ126 hQ126Q
     refine wp_ret ?_
     refine thr ?_
     refine rt (fn := Try.f14) (v := .tuple #[.agg #[.int .i64 u0.Sent, .int .i64 u0.Got, .int .i64 u0.Rest], .bool true]) hF132 (re2c hF132 (fn := Try.f14) rfl (ad := ⟨b7, 0, none⟩) (by kernel_rfl) (loadVar_run hM133 0 (b := b7) (k := 3) (vs := [.int .i64 u0.Sent, .int .i64 u0.Got, .int .i64 u0.Rest]) (ty := 28) rfl (by kernel_rfl) (by kernel_rfl)) (by kernel_rfl)) ?_
     exact ⟨(u0, true), rfl, hp125, hM133.below⟩
  · -- no
   have hp134 := hp39.2 hb48; clear hp39
   refine wp_skip ?_
   refine thn ?_
   refine wp_seq ?_
   refine sqH ?_; intro hQ135Q hQ135
   refine s1 hF47 27 (.int .i64 u1) ?_; intro a136 hF137; clear hF47
   refine nlH (hQ135 _ _ ?_); clear hQ135 hQ135Q
   refine wp_block ?_
   refine sqH ?_; intro hQ138Q hQ138
   refine s1 hF137 29 (.bool (u1 == 1)) ?_; intro a139 hF140; clear hF137
   refine s1 hF140 28 (.bool (u1 == 1)) ?_; intro a141 hF142; clear hF140
   refine nlH (hQ138 _ _ ?_); clear hQ138 hQ138Q
   refine cd hF142 (t := u1 == 1) (by kernel_rfl) (fun hb143 => ?_) (fun hb143 => ?_)
   · -- yes
    have hp144 := hp134.1 hb143; clear hp134
    refine sqH ?_; intro hQ145Q hQ145
    refine s1 hF142 30 (.pointer (some ⟨b2, 0, none⟩)) ?_; intro a146 hF147; clear hF142
    refine l1 hF147 hM11 31 1 0 (.int .i64 u0.Sent) rfl rfl ?_; intro a148 hF149; clear hF147
    refine s1 hF149 32 (.bool (decide (u0.Sent > 0))) ?_; intro a150 hF151; clear hF149
    refine nlH (hQ145 _ _ ?_); clear hQ145 hQ145Q
    refine cd hF151 (t := decide (u0.Sent > 0)) (by kernel_rfl) (fun hb152 => ?_) (fun hb152 => ?_)
    · -- yes
     have hp153 := hp144.1 hb152; clear hp144
     refine rgH ?_; intro hQ154Q hQ154
     refine s1 hF151 33 (.pointer (some ⟨b2, 0, none⟩)) ?_; intro a155 hF156; clear hF151
     refine l1 hF156 hM11 34 1 0 (.int .i64 u0.Sent) rfl rfl ?_; intro a157 hF158; clear hF156
     refine s1 hF158 35 (.int .i64 (w64 (u0.Sent - 1))) ?_; intro a159 hF160; clear hF158
     refine s1 hF160 36 (.pointer (some ⟨b2, 0, none⟩)) ?_; intro a161 hF162; clear hF160
     refine sr hF162 hM11 1 [.int .i64 (w64 (u0.Sent - 1)), .int .i64 u0.Got, .int .i64 u0.Rest] (b := b2) (off := 0) (cs := [.int .i64 u0.Sent, .int .i64 u0.Got, .int .i64 u0.Rest]) (ty := 28) (u := .int .i64 (w64 (u0.Sent - 1))) (nog rfl _) rfl rfl (by kernel_rfl) (by kernel_rfl) (by kernel_rfl) (by kernel_rfl) (by kernel_rfl) (by kernel_rfl) (by kernel_rfl) ?_; intro wd163 hM164; clear hM11
     have hM165 : Mem w.heap.size [] w Z [.row b7 [.int .i64 0, .int .i64 0, .int .i64 0] 28, .row b2 [.int .i64 (w64 (u0.Sent - 1)), .int .i64 u0.Got, .int .i64 u0.Rest] 28] Z wd163 := hM164; clear hM164
     refine nlH (hQ154 _ _ ?_); clear hQ154 hQ154Q
     refine ibn ?_
     refine thn ?_
     refine sqH ?_; intro hQ166Q hQ166
     refine l2 hF162 hM165 79 1 0 3 [.int .i64 (w64 (u0.Sent - 1)), .int .i64 u0.Got, .int .i64 u0.Rest] rfl rfl ?_; intro a167 hF168; clear hF162
     refine sr hF168 hM165 0 [.int .i64 (w64 (u0.Sent - 1)), .int .i64 u0.Got, .int .i64 u0.Rest] (b := b7) (off := 0) (cs := [.int .i64 0, .int .i64 0, .int .i64 0]) (ty := 28) (u := .agg #[.int .i64 (w64 (u0.Sent - 1)), .int .i64 u0.Got, .int .i64 u0.Rest]) (nog rfl _) rfl rfl (by kernel_rfl) (by kernel_rfl) (by kernel_rfl) (by kernel_rfl) (by kernel_rfl) (by kernel_rfl) (by kernel_rfl) ?_; intro wd169 hM170; clear hM165
     refine s1 hF168 5 (.bool true) ?_; intro a171 hF172; clear hF168
     have hM173 : Mem w.heap.size [] w Z [.row b7 [.int .i64 (w64 (u0.Sent - 1)), .int .i64 u0.Got, .int .i64 u0.Rest] 28, .row b2 [.int .i64 (w64 (u0.Sent - 1)), .int .i64 u0.Got, .int .i64 u0.Rest] 28] Z wd169 := hM170; clear hM170
     refine nlH (hQ166 _ _ ?_); clear hQ166 hQ166Q
     refine wp_ret ?_
     refine rt (fn := Try.f14) (v := .tuple #[.agg #[.int .i64 (w64 (u0.Sent - 1)), .int .i64 u0.Got, .int .i64 u0.Rest], .bool true]) hF172 (re2c hF172 (fn := Try.f14) rfl (ad := ⟨b7, 0, none⟩) (by kernel_rfl) (loadVar_run hM173 0 (b := b7) (k := 3) (vs := [.int .i64 (w64 (u0.Sent - 1)), .int .i64 u0.Got, .int .i64 u0.Rest]) (ty := 28) rfl (by kernel_rfl) (by kernel_rfl)) (by kernel_rfl)) ?_
     exact ⟨((⟨w64 (u0.Sent - 1), u0.Got, u0.Rest⟩ : Health), true), rfl, hp153, hM173.below⟩
    · -- no
     have hp174 := hp144.2 hb152; clear hp144
     refine wp_skip ?_
     refine ibn ?_
     refine thn ?_
     refine sqH ?_; intro hQ175Q hQ175
     refine l2 hF151 hM11 79 1 0 3 [.int .i64 u0.Sent, .int .i64 u0.Got, .int .i64 u0.Rest] rfl rfl ?_; intro a176 hF177; clear hF151
     refine sr hF177 hM11 0 [.int .i64 u0.Sent, .int .i64 u0.Got, .int .i64 u0.Rest] (b := b7) (off := 0) (cs := [.int .i64 0, .int .i64 0, .int .i64 0]) (ty := 28) (u := .agg #[.int .i64 u0.Sent, .int .i64 u0.Got, .int .i64 u0.Rest]) (nog rfl _) rfl rfl (by kernel_rfl) (by kernel_rfl) (by kernel_rfl) (by kernel_rfl) (by kernel_rfl) (by kernel_rfl) (by kernel_rfl) ?_; intro wd178 hM179; clear hM11
     refine s1 hF177 5 (.bool true) ?_; intro a180 hF181; clear hF177
     have hM182 : Mem w.heap.size [] w Z [.row b7 [.int .i64 u0.Sent, .int .i64 u0.Got, .int .i64 u0.Rest] 28, .row b2 [.int .i64 u0.Sent, .int .i64 u0.Got, .int .i64 u0.Rest] 28] Z wd178 := hM179; clear hM179
     refine nlH (hQ175 _ _ ?_); clear hQ175 hQ175Q
     refine wp_ret ?_
     refine rt (fn := Try.f14) (v := .tuple #[.agg #[.int .i64 u0.Sent, .int .i64 u0.Got, .int .i64 u0.Rest], .bool true]) hF181 (re2c hF181 (fn := Try.f14) rfl (ad := ⟨b7, 0, none⟩) (by kernel_rfl) (loadVar_run hM182 0 (b := b7) (k := 3) (vs := [.int .i64 u0.Sent, .int .i64 u0.Got, .int .i64 u0.Rest]) (ty := 28) rfl (by kernel_rfl) (by kernel_rfl)) (by kernel_rfl)) ?_
     exact ⟨(u0, true), rfl, hp174, hM182.below⟩
   · -- no
    have hp183 := hp134.2 hb143; clear hp134
    refine sqH ?_; intro hQ184Q hQ184
    refine s1 hF142 38 (.bool (u1 == 2)) ?_; intro a185 hF186; clear hF142
    refine s1 hF186 37 (.bool (u1 == 2)) ?_; intro a187 hF188; clear hF186
    refine nlH (hQ184 _ _ ?_); clear hQ184 hQ184Q
    refine cd hF188 (t := u1 == 2) (by kernel_rfl) (fun hb189 => ?_) (fun hb189 => ?_)
    · -- yes
     have hp190 := hp183.1 hb189; clear hp183
     refine sqH ?_; intro hQ191Q hQ191
     refine s1 hF188 39 (.pointer (some ⟨b2, 1, none⟩)) ?_; intro a192 hF193; clear hF188
     refine l1 hF193 hM11 40 1 1 (.int .i64 u0.Got) rfl rfl ?_; intro a194 hF195; clear hF193
     refine s1 hF195 41 (.bool (decide (u0.Got > 127))) ?_; intro a196 hF197; clear hF195
     refine nlH (hQ191 _ _ ?_); clear hQ191 hQ191Q
     refine cd hF197 (t := decide (u0.Got > 127)) (by kernel_rfl) (fun hb198 => ?_) (fun hb198 => ?_)
     · -- yes
      have hp199 := hp190.1 hb198; clear hp190
      refine rgH ?_; intro hQ200Q hQ200
      refine s1 hF197 42 (.pointer (some ⟨b2, 1, none⟩)) ?_; intro a201 hF202; clear hF197
      refine sr hF202 hM11 1 [.int .i64 u0.Sent, .int .i64 126, .int .i64 u0.Rest] (b := b2) (off := 1) (cs := [.int .i64 u0.Sent, .int .i64 u0.Got, .int .i64 u0.Rest]) (ty := 28) (u := .int .i64 126) (nog rfl _) rfl rfl (by kernel_rfl) (by kernel_rfl) (by kernel_rfl) (by kernel_rfl) (by kernel_rfl) (by kernel_rfl) (by kernel_rfl) ?_; intro wd203 hM204; clear hM11
      have hM205 : Mem w.heap.size [] w Z [.row b7 [.int .i64 0, .int .i64 0, .int .i64 0] 28, .row b2 [.int .i64 u0.Sent, .int .i64 126, .int .i64 u0.Rest] 28] Z wd203 := hM204; clear hM204
      refine nlH (hQ200 _ _ ?_); clear hQ200 hQ200Q
      refine ibn ?_
      refine thn ?_
      refine sqH ?_; intro hQ206Q hQ206
      refine l2 hF202 hM205 79 1 0 3 [.int .i64 u0.Sent, .int .i64 126, .int .i64 u0.Rest] rfl rfl ?_; intro a207 hF208; clear hF202
      refine sr hF208 hM205 0 [.int .i64 u0.Sent, .int .i64 126, .int .i64 u0.Rest] (b := b7) (off := 0) (cs := [.int .i64 0, .int .i64 0, .int .i64 0]) (ty := 28) (u := .agg #[.int .i64 u0.Sent, .int .i64 126, .int .i64 u0.Rest]) (nog rfl _) rfl rfl (by kernel_rfl) (by kernel_rfl) (by kernel_rfl) (by kernel_rfl) (by kernel_rfl) (by kernel_rfl) (by kernel_rfl) ?_; intro wd209 hM210; clear hM205
      refine s1 hF208 5 (.bool true) ?_; intro a211 hF212; clear hF208
      have hM213 : Mem w.heap.size [] w Z [.row b7 [.int .i64 u0.Sent, .int .i64 126, .int .i64 u0.Rest] 28, .row b2 [.int .i64 u0.Sent, .int .i64 126, .int .i64 u0.Rest] 28] Z wd209 := hM210; clear hM210
      refine nlH (hQ206 _ _ ?_); clear hQ206 hQ206Q
      refine wp_ret ?_
      refine rt (fn := Try.f14) (v := .tuple #[.agg #[.int .i64 u0.Sent, .int .i64 126, .int .i64 u0.Rest], .bool true]) hF212 (re2c hF212 (fn := Try.f14) rfl (ad := ⟨b7, 0, none⟩) (by kernel_rfl) (loadVar_run hM213 0 (b := b7) (k := 3) (vs := [.int .i64 u0.Sent, .int .i64 126, .int .i64 u0.Rest]) (ty := 28) rfl (by kernel_rfl) (by kernel_rfl)) (by kernel_rfl)) ?_
      exact ⟨((⟨u0.Sent, 126, u0.Rest⟩ : Health), true), rfl, hp199, hM213.below⟩
     · -- no
      have hp214 := hp190.2 hb198; clear hp190
      refine sqH ?_; intro hQ215Q hQ215
      refine s1 hF197 43 (.pointer (some ⟨b2, 1, none⟩)) ?_; intro a216 hF217; clear hF197
      refine l1 hF217 hM11 44 1 1 (.int .i64 u0.Got) rfl rfl ?_; intro a218 hF219; clear hF217
      refine s1 hF219 45 (.bool (decide (u0.Got > 0))) ?_; intro a220 hF221; clear hF219
      refine nlH (hQ215 _ _ ?_); clear hQ215 hQ215Q
      refine cd hF221 (t := decide (u0.Got > 0)) (by kernel_rfl) (fun hb222 => ?_) (fun hb222 => ?_)
      · -- yes
       have hp223 := hp214.1 hb222; clear hp214
       have hF224 : Fr 80 [] [⟨2, [], .pointer (some ⟨b2, 0, none⟩)⟩, ⟨4, [], .pointer (some ⟨b7, 0, none⟩)⟩] a220 := hF221.region (by kernel_rfl) (by kernel_rfl); clear hF221
       refine rgH ?_; intro hQ225Q hQ225
       refine s1 hF224 46 (.pointer (some ⟨b2, 1, none⟩)) ?_; intro a226 hF227; clear hF224
       refine l1 hF227 hM11 47 1 1 (.int .i64 u0.Got) rfl rfl ?_; intro a228 hF229; clear hF227
       refine s1 hF229 48 (.int .i64 (w64 (u0.Got - 1))) ?_; intro a230 hF231; clear hF229
       refine s1 hF231 49 (.pointer (some ⟨b2, 1, none⟩)) ?_; intro a232 hF233; clear hF231
       refine sr hF233 hM11 1 [.int .i64 u0.Sent, .int .i64 (w64 (u0.Got - 1)), .int .i64 u0.Rest] (b := b2) (off := 1) (cs := [.int .i64 u0.Sent, .int .i64 u0.Got, .int .i64 u0.Rest]) (ty := 28) (u := .int .i64 (w64 (u0.Got - 1))) (nog rfl _) rfl rfl (by kernel_rfl) (by kernel_rfl) (by kernel_rfl) (by kernel_rfl) (by kernel_rfl) (by kernel_rfl) (by kernel_rfl) ?_; intro wd234 hM235; clear hM11
       have hM236 : Mem w.heap.size [] w Z [.row b7 [.int .i64 0, .int .i64 0, .int .i64 0] 28, .row b2 [.int .i64 u0.Sent, .int .i64 (w64 (u0.Got - 1)), .int .i64 u0.Rest] 28] Z wd234 := hM235; clear hM235
       refine nlH (hQ225 _ _ ?_); clear hQ225 hQ225Q
       refine ibn ?_
       refine thn ?_
       refine sqH ?_; intro hQ237Q hQ237
       refine l2 hF233 hM236 79 1 0 3 [.int .i64 u0.Sent, .int .i64 (w64 (u0.Got - 1)), .int .i64 u0.Rest] rfl rfl ?_; intro a238 hF239; clear hF233
       refine sr hF239 hM236 0 [.int .i64 u0.Sent, .int .i64 (w64 (u0.Got - 1)), .int .i64 u0.Rest] (b := b7) (off := 0) (cs := [.int .i64 0, .int .i64 0, .int .i64 0]) (ty := 28) (u := .agg #[.int .i64 u0.Sent, .int .i64 (w64 (u0.Got - 1)), .int .i64 u0.Rest]) (nog rfl _) rfl rfl (by kernel_rfl) (by kernel_rfl) (by kernel_rfl) (by kernel_rfl) (by kernel_rfl) (by kernel_rfl) (by kernel_rfl) ?_; intro wd240 hM241; clear hM236
       refine s1 hF239 5 (.bool true) ?_; intro a242 hF243; clear hF239
       have hM244 : Mem w.heap.size [] w Z [.row b7 [.int .i64 u0.Sent, .int .i64 (w64 (u0.Got - 1)), .int .i64 u0.Rest] 28, .row b2 [.int .i64 u0.Sent, .int .i64 (w64 (u0.Got - 1)), .int .i64 u0.Rest] 28] Z wd240 := hM241; clear hM241
       refine nlH (hQ237 _ _ ?_); clear hQ237 hQ237Q
       refine wp_ret ?_
       refine rt (fn := Try.f14) (v := .tuple #[.agg #[.int .i64 u0.Sent, .int .i64 (w64 (u0.Got - 1)), .int .i64 u0.Rest], .bool true]) hF243 (re2c hF243 (fn := Try.f14) rfl (ad := ⟨b7, 0, none⟩) (by kernel_rfl) (loadVar_run hM244 0 (b := b7) (k := 3) (vs := [.int .i64 u0.Sent, .int .i64 (w64 (u0.Got - 1)), .int .i64 u0.Rest]) (ty := 28) rfl (by kernel_rfl) (by kernel_rfl)) (by kernel_rfl)) ?_
       exact ⟨((⟨u0.Sent, w64 (u0.Got - 1), u0.Rest⟩ : Health), true), rfl, hp223, hM244.below⟩
      · -- no
       have hp245 := hp214.2 hb222; clear hp214
       refine wp_skip ?_
       refine ibn ?_
       refine thn ?_
       have hF246 : Fr 80 [] [⟨2, [], .pointer (some ⟨b2, 0, none⟩)⟩, ⟨4, [], .pointer (some ⟨b7, 0, none⟩)⟩] a220 := hF221.region (by kernel_rfl) (by kernel_rfl); clear hF221
       refine sqH ?_; intro hQ247Q hQ247
       refine l2 hF246 hM11 79 1 0 3 [.int .i64 u0.Sent, .int .i64 u0.Got, .int .i64 u0.Rest] rfl rfl ?_; intro a248 hF249; clear hF246
       refine sr hF249 hM11 0 [.int .i64 u0.Sent, .int .i64 u0.Got, .int .i64 u0.Rest] (b := b7) (off := 0) (cs := [.int .i64 0, .int .i64 0, .int .i64 0]) (ty := 28) (u := .agg #[.int .i64 u0.Sent, .int .i64 u0.Got, .int .i64 u0.Rest]) (nog rfl _) rfl rfl (by kernel_rfl) (by kernel_rfl) (by kernel_rfl) (by kernel_rfl) (by kernel_rfl) (by kernel_rfl) (by kernel_rfl) ?_; intro wd250 hM251; clear hM11
       refine s1 hF249 5 (.bool true) ?_; intro a252 hF253; clear hF249
       have hM254 : Mem w.heap.size [] w Z [.row b7 [.int .i64 u0.Sent, .int .i64 u0.Got, .int .i64 u0.Rest] 28, .row b2 [.int .i64 u0.Sent, .int .i64 u0.Got, .int .i64 u0.Rest] 28] Z wd250 := hM251; clear hM251
       refine nlH (hQ247 _ _ ?_); clear hQ247 hQ247Q
       refine wp_ret ?_
       refine rt (fn := Try.f14) (v := .tuple #[.agg #[.int .i64 u0.Sent, .int .i64 u0.Got, .int .i64 u0.Rest], .bool true]) hF253 (re2c hF253 (fn := Try.f14) rfl (ad := ⟨b7, 0, none⟩) (by kernel_rfl) (loadVar_run hM254 0 (b := b7) (k := 3) (vs := [.int .i64 u0.Sent, .int .i64 u0.Got, .int .i64 u0.Rest]) (ty := 28) rfl (by kernel_rfl) (by kernel_rfl)) (by kernel_rfl)) ?_
       exact ⟨(u0, true), rfl, hp245, hM254.below⟩
    · -- no
     have hp255 := hp183.2 hb189; clear hp183
     refine sqH ?_; intro hQ256Q hQ256
     refine s1 hF188 51 (.bool (u1 == 3)) ?_; intro a257 hF258; clear hF188
     refine s1 hF258 50 (.bool (u1 == 3)) ?_; intro a259 hF260; clear hF258
     refine nlH (hQ256 _ _ ?_); clear hQ256 hQ256Q
     refine cd hF260 (t := u1 == 3) (by kernel_rfl) (fun hb261 => ?_) (fun hb261 => ?_)
     · -- yes
      have hp262 := hp255.1 hb261; clear hp255
      refine sqH ?_; intro hQ263Q hQ263
      refine s1 hF260 52 (.pointer (some ⟨b2, 0, none⟩)) ?_; intro a264 hF265; clear hF260
      refine l1 hF265 hM11 53 1 0 (.int .i64 u0.Sent) rfl rfl ?_; intro a266 hF267; clear hF265
      refine s1 hF267 54 (.int .i64 (w64 (u0.Sent + 8))) ?_; intro a268 hF269; clear hF267
      refine s1 hF269 55 (.pointer (some ⟨b2, 0, none⟩)) ?_; intro a270 hF271; clear hF269
      refine sr hF271 hM11 1 [.int .i64 (w64 (u0.Sent + 8)), .int .i64 u0.Got, .int .i64 u0.Rest] (b := b2) (off := 0) (cs := [.int .i64 u0.Sent, .int .i64 u0.Got, .int .i64 u0.Rest]) (ty := 28) (u := .int .i64 (w64 (u0.Sent + 8))) (nog rfl _) rfl rfl (by kernel_rfl) (by kernel_rfl) (by kernel_rfl) (by kernel_rfl) (by kernel_rfl) (by kernel_rfl) (by kernel_rfl) ?_; intro wd272 hM273; clear hM11
      have hM274 : Mem w.heap.size [] w Z [.row b7 [.int .i64 0, .int .i64 0, .int .i64 0] 28, .row b2 [.int .i64 (w64 (u0.Sent + 8)), .int .i64 u0.Got, .int .i64 u0.Rest] 28] Z wd272 := hM273; clear hM273
      refine nlH (hQ263 _ _ ?_); clear hQ263 hQ263Q
      have hF275 : Fr 80 [] [⟨2, [], .pointer (some ⟨b2, 0, none⟩)⟩, ⟨4, [], .pointer (some ⟨b7, 0, none⟩)⟩] a270 := hF271.region (by kernel_rfl) (by kernel_rfl); clear hF271
      refine sqH ?_; intro hQ276Q hQ276
      refine s1 hF275 56 (.pointer (some ⟨b2, 0, none⟩)) ?_; intro a277 hF278; clear hF275
      refine l1 hF278 hM274 57 1 0 (.int .i64 (w64 (u0.Sent + 8))) rfl rfl ?_; intro a279 hF280; clear hF278
      refine s1 hF280 58 (.bool (decide ((w64 (u0.Sent + 8)) > 256))) ?_; intro a281 hF282; clear hF280
      refine nlH (hQ276 _ _ ?_); clear hQ276 hQ276Q
      refine cd hF282 (t := decide ((w64 (u0.Sent + 8)) > 256)) (by kernel_rfl) (fun hb283 => ?_) (fun hb283 => ?_)
      · -- yes
       have hp284 := hp262.1 hb283; clear hp262
       refine rgH ?_; intro hQ285Q hQ285
       refine s1 hF282 59 (.pointer (some ⟨b2, 0, none⟩)) ?_; intro a286 hF287; clear hF282
       refine sr hF287 hM274 1 [.int .i64 256, .int .i64 u0.Got, .int .i64 u0.Rest] (b := b2) (off := 0) (cs := [.int .i64 (w64 (u0.Sent + 8)), .int .i64 u0.Got, .int .i64 u0.Rest]) (ty := 28) (u := .int .i64 256) (nog rfl _) rfl rfl (by kernel_rfl) (by kernel_rfl) (by kernel_rfl) (by kernel_rfl) (by kernel_rfl) (by kernel_rfl) (by kernel_rfl) ?_; intro wd288 hM289; clear hM274
       have hM290 : Mem w.heap.size [] w Z [.row b7 [.int .i64 0, .int .i64 0, .int .i64 0] 28, .row b2 [.int .i64 256, .int .i64 u0.Got, .int .i64 u0.Rest] 28] Z wd288 := hM289; clear hM289
       refine nlH (hQ285 _ _ ?_); clear hQ285 hQ285Q
       refine ibn ?_
       refine thn ?_
       refine sqH ?_; intro hQ291Q hQ291
       refine l2 hF287 hM290 79 1 0 3 [.int .i64 256, .int .i64 u0.Got, .int .i64 u0.Rest] rfl rfl ?_; intro a292 hF293; clear hF287
       refine sr hF293 hM290 0 [.int .i64 256, .int .i64 u0.Got, .int .i64 u0.Rest] (b := b7) (off := 0) (cs := [.int .i64 0, .int .i64 0, .int .i64 0]) (ty := 28) (u := .agg #[.int .i64 256, .int .i64 u0.Got, .int .i64 u0.Rest]) (nog rfl _) rfl rfl (by kernel_rfl) (by kernel_rfl) (by kernel_rfl) (by kernel_rfl) (by kernel_rfl) (by kernel_rfl) (by kernel_rfl) ?_; intro wd294 hM295; clear hM290
       refine s1 hF293 5 (.bool true) ?_; intro a296 hF297; clear hF293
       have hM298 : Mem w.heap.size [] w Z [.row b7 [.int .i64 256, .int .i64 u0.Got, .int .i64 u0.Rest] 28, .row b2 [.int .i64 256, .int .i64 u0.Got, .int .i64 u0.Rest] 28] Z wd294 := hM295; clear hM295
       refine nlH (hQ291 _ _ ?_); clear hQ291 hQ291Q
       refine wp_ret ?_
       refine rt (fn := Try.f14) (v := .tuple #[.agg #[.int .i64 256, .int .i64 u0.Got, .int .i64 u0.Rest], .bool true]) hF297 (re2c hF297 (fn := Try.f14) rfl (ad := ⟨b7, 0, none⟩) (by kernel_rfl) (loadVar_run hM298 0 (b := b7) (k := 3) (vs := [.int .i64 256, .int .i64 u0.Got, .int .i64 u0.Rest]) (ty := 28) rfl (by kernel_rfl) (by kernel_rfl)) (by kernel_rfl)) ?_
       exact ⟨((⟨256, u0.Got, u0.Rest⟩ : Health), true), rfl, hp284, hM298.below⟩
      · -- no
       have hp299 := hp262.2 hb283; clear hp262
       refine wp_skip ?_
       refine ibn ?_
       refine thn ?_
       refine sqH ?_; intro hQ300Q hQ300
       refine l2 hF282 hM274 79 1 0 3 [.int .i64 (w64 (u0.Sent + 8)), .int .i64 u0.Got, .int .i64 u0.Rest] rfl rfl ?_; intro a301 hF302; clear hF282
       refine sr hF302 hM274 0 [.int .i64 (w64 (u0.Sent + 8)), .int .i64 u0.Got, .int .i64 u0.Rest] (b := b7) (off := 0) (cs := [.int .i64 0, .int .i64 0, .int .i64 0]) (ty := 28) (u := .agg #[.int .i64 (w64 (u0.Sent + 8)), .int .i64 u0.Got, .int .i64 u0.Rest]) (nog rfl _) rfl rfl (by kernel_rfl) (by kernel_rfl) (by kernel_rfl) (by kernel_rfl) (by kernel_rfl) (by kernel_rfl) (by kernel_rfl) ?_; intro wd303 hM304; clear hM274
       refine s1 hF302 5 (.bool true) ?_; intro a305 hF306; clear hF302
       have hM307 : Mem w.heap.size [] w Z [.row b7 [.int .i64 (w64 (u0.Sent + 8)), .int .i64 u0.Got, .int .i64 u0.Rest] 28, .row b2 [.int .i64 (w64 (u0.Sent + 8)), .int .i64 u0.Got, .int .i64 u0.Rest] 28] Z wd303 := hM304; clear hM304
       refine nlH (hQ300 _ _ ?_); clear hQ300 hQ300Q
       refine wp_ret ?_
       refine rt (fn := Try.f14) (v := .tuple #[.agg #[.int .i64 (w64 (u0.Sent + 8)), .int .i64 u0.Got, .int .i64 u0.Rest], .bool true]) hF306 (re2c hF306 (fn := Try.f14) rfl (ad := ⟨b7, 0, none⟩) (by kernel_rfl) (loadVar_run hM307 0 (b := b7) (k := 3) (vs := [.int .i64 (w64 (u0.Sent + 8)), .int .i64 u0.Got, .int .i64 u0.Rest]) (ty := 28) rfl (by kernel_rfl) (by kernel_rfl)) (by kernel_rfl)) ?_
       exact ⟨((⟨w64 (u0.Sent + 8), u0.Got, u0.Rest⟩ : Health), true), rfl, hp299, hM307.below⟩
     · -- no
      have hp308 := hp255.2 hb261; clear hp255
      refine sqH ?_; intro hQ309Q hQ309
      refine s1 hF260 61 (.bool (u1 == 4)) ?_; intro a310 hF311; clear hF260
      refine s1 hF311 60 (.bool (u1 == 4)) ?_; intro a312 hF313; clear hF311
      refine nlH (hQ309 _ _ ?_); clear hQ309 hQ309Q
      refine cd hF313 (t := u1 == 4) (by kernel_rfl) (fun hb314 => ?_) (fun hb314 => ?_)
      · -- yes
       have hp315 := hp308.1 hb314; clear hp308
       refine sqH ?_; intro hQ316Q hQ316
       refine s1 hF313 62 (.pointer (some ⟨b2, 1, none⟩)) ?_; intro a317 hF318; clear hF313
       refine l1 hF318 hM11 63 1 1 (.int .i64 u0.Got) rfl rfl ?_; intro a319 hF320; clear hF318
       refine s1 hF320 64 (.bool (decide (u0.Got < 255))) ?_; intro a321 hF322; clear hF320
       refine nlH (hQ316 _ _ ?_); clear hQ316 hQ316Q
       refine cd hF322 (t := decide (u0.Got < 255)) (by kernel_rfl) (fun hb323 => ?_) (fun hb323 => ?_)
       · -- yes
        have hp324 := hp315.1 hb323; clear hp315
        have hF325 : Fr 80 [] [⟨2, [], .pointer (some ⟨b2, 0, none⟩)⟩, ⟨4, [], .pointer (some ⟨b7, 0, none⟩)⟩] a321 := hF322.region (by kernel_rfl) (by kernel_rfl); clear hF322
        refine rgH ?_; intro hQ326Q hQ326
        refine s1 hF325 65 (.pointer (some ⟨b2, 1, none⟩)) ?_; intro a327 hF328; clear hF325
        refine l1 hF328 hM11 66 1 1 (.int .i64 u0.Got) rfl rfl ?_; intro a329 hF330; clear hF328
        refine s1 hF330 67 (.int .i64 (w64 (u0.Got + 1))) ?_; intro a331 hF332; clear hF330
        refine s1 hF332 68 (.pointer (some ⟨b2, 1, none⟩)) ?_; intro a333 hF334; clear hF332
        refine sr hF334 hM11 1 [.int .i64 u0.Sent, .int .i64 (w64 (u0.Got + 1)), .int .i64 u0.Rest] (b := b2) (off := 1) (cs := [.int .i64 u0.Sent, .int .i64 u0.Got, .int .i64 u0.Rest]) (ty := 28) (u := .int .i64 (w64 (u0.Got + 1))) (nog rfl _) rfl rfl (by kernel_rfl) (by kernel_rfl) (by kernel_rfl) (by kernel_rfl) (by kernel_rfl) (by kernel_rfl) (by kernel_rfl) ?_; intro wd335 hM336; clear hM11
        have hM337 : Mem w.heap.size [] w Z [.row b7 [.int .i64 0, .int .i64 0, .int .i64 0] 28, .row b2 [.int .i64 u0.Sent, .int .i64 (w64 (u0.Got + 1)), .int .i64 u0.Rest] 28] Z wd335 := hM336; clear hM336
        refine nlH (hQ326 _ _ ?_); clear hQ326 hQ326Q
        refine ibn ?_
        refine thn ?_
        refine sqH ?_; intro hQ338Q hQ338
        refine l2 hF334 hM337 79 1 0 3 [.int .i64 u0.Sent, .int .i64 (w64 (u0.Got + 1)), .int .i64 u0.Rest] rfl rfl ?_; intro a339 hF340; clear hF334
        refine sr hF340 hM337 0 [.int .i64 u0.Sent, .int .i64 (w64 (u0.Got + 1)), .int .i64 u0.Rest] (b := b7) (off := 0) (cs := [.int .i64 0, .int .i64 0, .int .i64 0]) (ty := 28) (u := .agg #[.int .i64 u0.Sent, .int .i64 (w64 (u0.Got + 1)), .int .i64 u0.Rest]) (nog rfl _) rfl rfl (by kernel_rfl) (by kernel_rfl) (by kernel_rfl) (by kernel_rfl) (by kernel_rfl) (by kernel_rfl) (by kernel_rfl) ?_; intro wd341 hM342; clear hM337
        refine s1 hF340 5 (.bool true) ?_; intro a343 hF344; clear hF340
        have hM345 : Mem w.heap.size [] w Z [.row b7 [.int .i64 u0.Sent, .int .i64 (w64 (u0.Got + 1)), .int .i64 u0.Rest] 28, .row b2 [.int .i64 u0.Sent, .int .i64 (w64 (u0.Got + 1)), .int .i64 u0.Rest] 28] Z wd341 := hM342; clear hM342
        refine nlH (hQ338 _ _ ?_); clear hQ338 hQ338Q
        refine wp_ret ?_
        refine rt (fn := Try.f14) (v := .tuple #[.agg #[.int .i64 u0.Sent, .int .i64 (w64 (u0.Got + 1)), .int .i64 u0.Rest], .bool true]) hF344 (re2c hF344 (fn := Try.f14) rfl (ad := ⟨b7, 0, none⟩) (by kernel_rfl) (loadVar_run hM345 0 (b := b7) (k := 3) (vs := [.int .i64 u0.Sent, .int .i64 (w64 (u0.Got + 1)), .int .i64 u0.Rest]) (ty := 28) rfl (by kernel_rfl) (by kernel_rfl)) (by kernel_rfl)) ?_
        exact ⟨((⟨u0.Sent, w64 (u0.Got + 1), u0.Rest⟩ : Health), true), rfl, hp324, hM345.below⟩
       · -- no
        have hp346 := hp315.2 hb323; clear hp315
        refine wp_skip ?_
        refine ibn ?_
        refine thn ?_
        have hF347 : Fr 80 [] [⟨2, [], .pointer (some ⟨b2, 0, none⟩)⟩, ⟨4, [], .pointer (some ⟨b7, 0, none⟩)⟩] a321 := hF322.region (by kernel_rfl) (by kernel_rfl); clear hF322
        refine sqH ?_; intro hQ348Q hQ348
        refine l2 hF347 hM11 79 1 0 3 [.int .i64 u0.Sent, .int .i64 u0.Got, .int .i64 u0.Rest] rfl rfl ?_; intro a349 hF350; clear hF347
        refine sr hF350 hM11 0 [.int .i64 u0.Sent, .int .i64 u0.Got, .int .i64 u0.Rest] (b := b7) (off := 0) (cs := [.int .i64 0, .int .i64 0, .int .i64 0]) (ty := 28) (u := .agg #[.int .i64 u0.Sent, .int .i64 u0.Got, .int .i64 u0.Rest]) (nog rfl _) rfl rfl (by kernel_rfl) (by kernel_rfl) (by kernel_rfl) (by kernel_rfl) (by kernel_rfl) (by kernel_rfl) (by kernel_rfl) ?_; intro wd351 hM352; clear hM11
        refine s1 hF350 5 (.bool true) ?_; intro a353 hF354; clear hF350
        have hM355 : Mem w.heap.size [] w Z [.row b7 [.int .i64 u0.Sent, .int .i64 u0.Got, .int .i64 u0.Rest] 28, .row b2 [.int .i64 u0.Sent, .int .i64 u0.Got, .int .i64 u0.Rest] 28] Z wd351 := hM352; clear hM352
        refine nlH (hQ348 _ _ ?_); clear hQ348 hQ348Q
        refine wp_ret ?_
        refine rt (fn := Try.f14) (v := .tuple #[.agg #[.int .i64 u0.Sent, .int .i64 u0.Got, .int .i64 u0.Rest], .bool true]) hF354 (re2c hF354 (fn := Try.f14) rfl (ad := ⟨b7, 0, none⟩) (by kernel_rfl) (loadVar_run hM355 0 (b := b7) (k := 3) (vs := [.int .i64 u0.Sent, .int .i64 u0.Got, .int .i64 u0.Rest]) (ty := 28) rfl (by kernel_rfl) (by kernel_rfl)) (by kernel_rfl)) ?_
        exact ⟨(u0, true), rfl, hp346, hM355.below⟩
      · -- no
       have hp356 := hp308.2 hb314; clear hp308
       refine sqH ?_; intro hQ357Q hQ357
       refine s1 hF313 70 (.bool (u1 == 5)) ?_; intro a358 hF359; clear hF313
       refine s1 hF359 69 (.bool (u1 == 5)) ?_; intro a360 hF361; clear hF359
       refine nlH (hQ357 _ _ ?_); clear hQ357 hQ357Q
       refine cd hF361 (t := u1 == 5) (by kernel_rfl) (fun hb362 => ?_) (fun hb362 => ?_)
       · -- yes
        have hp363 := hp356.1 hb362; clear hp356
        have hF364 : Fr 80 [] [⟨2, [], .pointer (some ⟨b2, 0, none⟩)⟩, ⟨4, [], .pointer (some ⟨b7, 0, none⟩)⟩] a360 := hF361.region (by kernel_rfl) (by kernel_rfl); clear hF361
        refine sqH ?_; intro hQ365Q hQ365
        refine s1 hF364 71 (.pointer (some ⟨b2, 1, none⟩)) ?_; intro a366 hF367; clear hF364
        refine l1 hF367 hM11 72 1 1 (.int .i64 u0.Got) rfl rfl ?_; intro a368 hF369; clear hF367
        refine s1 hF369 73 (.int .i64 (w64 (u0.Got + 8))) ?_; intro a370 hF371; clear hF369
        refine s1 hF371 74 (.pointer (some ⟨b2, 1, none⟩)) ?_; intro a372 hF373; clear hF371
        refine sr hF373 hM11 1 [.int .i64 u0.Sent, .int .i64 (w64 (u0.Got + 8)), .int .i64 u0.Rest] (b := b2) (off := 1) (cs := [.int .i64 u0.Sent, .int .i64 u0.Got, .int .i64 u0.Rest]) (ty := 28) (u := .int .i64 (w64 (u0.Got + 8))) (nog rfl _) rfl rfl (by kernel_rfl) (by kernel_rfl) (by kernel_rfl) (by kernel_rfl) (by kernel_rfl) (by kernel_rfl) (by kernel_rfl) ?_; intro wd374 hM375; clear hM11
        have hM376 : Mem w.heap.size [] w Z [.row b7 [.int .i64 0, .int .i64 0, .int .i64 0] 28, .row b2 [.int .i64 u0.Sent, .int .i64 (w64 (u0.Got + 8)), .int .i64 u0.Rest] 28] Z wd374 := hM375; clear hM375
        refine nlH (hQ365 _ _ ?_); clear hQ365 hQ365Q
        refine sqH ?_; intro hQ377Q hQ377
        refine s1 hF373 75 (.pointer (some ⟨b2, 1, none⟩)) ?_; intro a378 hF379; clear hF373
        refine l1 hF379 hM376 76 1 1 (.int .i64 (w64 (u0.Got + 8))) rfl rfl ?_; intro a380 hF381; clear hF379
        refine s1 hF381 77 (.bool (decide ((w64 (u0.Got + 8)) > 255))) ?_; intro a382 hF383; clear hF381
        refine nlH (hQ377 _ _ ?_); clear hQ377 hQ377Q
        refine cd hF383 (t := decide ((w64 (u0.Got + 8)) > 255)) (by kernel_rfl) (fun hb384 => ?_) (fun hb384 => ?_)
        · -- yes
         have hp385 := hp363.1 hb384; clear hp363
         refine rgH ?_; intro hQ386Q hQ386
         refine s1 hF383 78 (.pointer (some ⟨b2, 1, none⟩)) ?_; intro a387 hF388; clear hF383
         refine sr hF388 hM376 1 [.int .i64 u0.Sent, .int .i64 255, .int .i64 u0.Rest] (b := b2) (off := 1) (cs := [.int .i64 u0.Sent, .int .i64 (w64 (u0.Got + 8)), .int .i64 u0.Rest]) (ty := 28) (u := .int .i64 255) (nog rfl _) rfl rfl (by kernel_rfl) (by kernel_rfl) (by kernel_rfl) (by kernel_rfl) (by kernel_rfl) (by kernel_rfl) (by kernel_rfl) ?_; intro wd389 hM390; clear hM376
         have hM391 : Mem w.heap.size [] w Z [.row b7 [.int .i64 0, .int .i64 0, .int .i64 0] 28, .row b2 [.int .i64 u0.Sent, .int .i64 255, .int .i64 u0.Rest] 28] Z wd389 := hM390; clear hM390
         refine nlH (hQ386 _ _ ?_); clear hQ386 hQ386Q
         refine ibn ?_
         refine thn ?_
         refine sqH ?_; intro hQ392Q hQ392
         refine l2 hF388 hM391 79 1 0 3 [.int .i64 u0.Sent, .int .i64 255, .int .i64 u0.Rest] rfl rfl ?_; intro a393 hF394; clear hF388
         refine sr hF394 hM391 0 [.int .i64 u0.Sent, .int .i64 255, .int .i64 u0.Rest] (b := b7) (off := 0) (cs := [.int .i64 0, .int .i64 0, .int .i64 0]) (ty := 28) (u := .agg #[.int .i64 u0.Sent, .int .i64 255, .int .i64 u0.Rest]) (nog rfl _) rfl rfl (by kernel_rfl) (by kernel_rfl) (by kernel_rfl) (by kernel_rfl) (by kernel_rfl) (by kernel_rfl) (by kernel_rfl) ?_; intro wd395 hM396; clear hM391
         refine s1 hF394 5 (.bool true) ?_; intro a397 hF398; clear hF394
         have hM399 : Mem w.heap.size [] w Z [.row b7 [.int .i64 u0.Sent, .int .i64 255, .int .i64 u0.Rest] 28, .row b2 [.int .i64 u0.Sent, .int .i64 255, .int .i64 u0.Rest] 28] Z wd395 := hM396; clear hM396
         refine nlH (hQ392 _ _ ?_); clear hQ392 hQ392Q
         refine wp_ret ?_
         refine rt (fn := Try.f14) (v := .tuple #[.agg #[.int .i64 u0.Sent, .int .i64 255, .int .i64 u0.Rest], .bool true]) hF398 (re2c hF398 (fn := Try.f14) rfl (ad := ⟨b7, 0, none⟩) (by kernel_rfl) (loadVar_run hM399 0 (b := b7) (k := 3) (vs := [.int .i64 u0.Sent, .int .i64 255, .int .i64 u0.Rest]) (ty := 28) rfl (by kernel_rfl) (by kernel_rfl)) (by kernel_rfl)) ?_
         exact ⟨((⟨u0.Sent, 255, u0.Rest⟩ : Health), true), rfl, hp385, hM399.below⟩
        · -- no
         have hp400 := hp363.2 hb384; clear hp363
         refine wp_skip ?_
         refine ibn ?_
         refine thn ?_
         refine sqH ?_; intro hQ401Q hQ401
         refine l2 hF383 hM376 79 1 0 3 [.int .i64 u0.Sent, .int .i64 (w64 (u0.Got + 8)), .int .i64 u0.Rest] rfl rfl ?_; intro a402 hF403; clear hF383
         refine sr hF403 hM376 0 [.int .i64 u0.Sent, .int .i64 (w64 (u0.Got + 8)), .int .i64 u0.Rest] (b := b7) (off := 0) (cs := [.int .i64 0, .int .i64 0, .int .i64 0]) (ty := 28) (u := .agg #[.int .i64 u0.Sent, .int .i64 (w64 (u0.Got + 8)), .int .i64 u0.Rest]) (nog rfl _) rfl rfl (by kernel_rfl) (by kernel_rfl) (by kernel_rfl) (by kernel_rfl) (by kernel_rfl) (by kernel_rfl) (by kernel_rfl) ?_; intro wd404 hM405; clear hM376
         refine s1 hF403 5 (.bool true) ?_; intro a406 hF407; clear hF403
         have hM408 : Mem w.heap.size [] w Z [.row b7 [.int .i64 u0.Sent, .int .i64 (w64 (u0.Got + 8)), .int .i64 u0.Rest] 28, .row b2 [.int .i64 u0.Sent, .int .i64 (w64 (u0.Got + 8)), .int .i64 u0.Rest] 28] Z wd404 := hM405; clear hM405
         refine nlH (hQ401 _ _ ?_); clear hQ401 hQ401Q
         refine wp_ret ?_
         refine rt (fn := Try.f14) (v := .tuple #[.agg #[.int .i64 u0.Sent, .int .i64 (w64 (u0.Got + 8)), .int .i64 u0.Rest], .bool true]) hF407 (re2c hF407 (fn := Try.f14) rfl (ad := ⟨b7, 0, none⟩) (by kernel_rfl) (loadVar_run hM408 0 (b := b7) (k := 3) (vs := [.int .i64 u0.Sent, .int .i64 (w64 (u0.Got + 8)), .int .i64 u0.Rest]) (ty := 28) rfl (by kernel_rfl) (by kernel_rfl)) (by kernel_rfl)) ?_
         exact ⟨((⟨u0.Sent, w64 (u0.Got + 8), u0.Rest⟩ : Health), true), rfl, hp400, hM408.below⟩
       · -- no
        have hp409 := hp356.2 hb362; clear hp356
        refine wp_skip ?_
        refine ibn ?_
        refine thn ?_
        have hF410 : Fr 80 [] [⟨2, [], .pointer (some ⟨b2, 0, none⟩)⟩, ⟨4, [], .pointer (some ⟨b7, 0, none⟩)⟩] a360 := hF361.region (by kernel_rfl) (by kernel_rfl); clear hF361
        refine sqH ?_; intro hQ411Q hQ411
        refine l2 hF410 hM11 79 1 0 3 [.int .i64 u0.Sent, .int .i64 u0.Got, .int .i64 u0.Rest] rfl rfl ?_; intro a412 hF413; clear hF410
        refine sr hF413 hM11 0 [.int .i64 u0.Sent, .int .i64 u0.Got, .int .i64 u0.Rest] (b := b7) (off := 0) (cs := [.int .i64 0, .int .i64 0, .int .i64 0]) (ty := 28) (u := .agg #[.int .i64 u0.Sent, .int .i64 u0.Got, .int .i64 u0.Rest]) (nog rfl _) rfl rfl (by kernel_rfl) (by kernel_rfl) (by kernel_rfl) (by kernel_rfl) (by kernel_rfl) (by kernel_rfl) (by kernel_rfl) ?_; intro wd414 hM415; clear hM11
        refine s1 hF413 5 (.bool true) ?_; intro a416 hF417; clear hF413
        have hM418 : Mem w.heap.size [] w Z [.row b7 [.int .i64 u0.Sent, .int .i64 u0.Got, .int .i64 u0.Rest] 28, .row b2 [.int .i64 u0.Sent, .int .i64 u0.Got, .int .i64 u0.Rest] 28] Z wd414 := hM415; clear hM415
        refine nlH (hQ411 _ _ ?_); clear hQ411 hQ411Q
        refine wp_ret ?_
        refine rt (fn := Try.f14) (v := .tuple #[.agg #[.int .i64 u0.Sent, .int .i64 u0.Got, .int .i64 u0.Rest], .bool true]) hF417 (re2c hF417 (fn := Try.f14) rfl (ad := ⟨b7, 0, none⟩) (by kernel_rfl) (loadVar_run hM418 0 (b := b7) (k := 3) (vs := [.int .i64 u0.Sent, .int .i64 u0.Got, .int .i64 u0.Rest]) (ty := 28) rfl (by kernel_rfl) (by kernel_rfl)) (by kernel_rfl)) ?_
        exact ⟨(u0, true), rfl, hp409, hM418.below⟩
theorem rstep_fun (u0 : Health) (u1 : Int)  (Z : Fz) (w : World)  (hZ : Z.on w) : Calls Try.prog 14 #[.agg #[.int .i64 u0.Sent, .int .i64 u0.Got, .int .i64 u0.Rest], .int .i64 u1] w fun e w' => e = .returned (.tuple #[.agg #[.int .i64 (((rstep u0 u1).1).Sent), .int .i64 (((rstep u0 u1).1).Got), .int .i64 (((rstep u0 u1).1).Rest)], .bool ((rstep u0 u1).2)]) ∧ Below w.heap.size w w' :=
  (rstep_walk u0 u1  Z w  hZ (rstep_ok u0 u1)).mono fun _ _ ⟨r, he, hk, hb⟩ => ⟨by subst hk; exact he, hb⟩

set_option maxRecDepth 100000 in
theorem hstep_walk (u0 : Health) (u1 : List Int) (ao1 : Option Addr) (cap2 : Nat) (Z : Fz) (w : World) (hs3 : SlR (tyInt .i64) Z ao1 cap2 u1) (hZ : Z.on w) {K : (Health × Int × Int) → Prop} (hp : hstep_vc u0 u1 K) : Calls Try.prog 8 #[.agg #[.int .i64 u0.Sent, .int .i64 u0.Got, .int .i64 u0.Rest], .slice ao1 u1.length cap2] w fun e w' => ∃ r : Health × Int × Int, e = .returned (.tuple #[.agg #[.int .i64 r.1.Sent, .int .i64 r.1.Got, .int .i64 r.1.Rest], .int .i64 r.2.1, .int .i64 r.2.2]) ∧ K r ∧ Below w.heap.size w w' := by
 refine enter0 Try.func8 rfl rfl (by kernel_rfl) ?_; intro a0 hF0; have hM0 := Mem.start w Z hZ; have hle0 := Fz.le.refl Z
 have hp4 := hp (hs3.small); clear hp
 refine sqH ?_; intro hQ5Q hQ5
 refine sn hF0 hM0 (fun b => .pointer (some ⟨b, 0, none⟩)) [.int .i64 u0.Sent, .int .i64 u0.Got, .int .i64 u0.Rest] 28 (nog rfl _) rfl (by kernel_rfl) (by kernel_rfl) ?_; intro b6 a7 wd9 hF8 hM10; clear hF0 hM0
 refine sn hF8 hM10 (fun b => .pointer (some ⟨b, 0, none⟩)) [.int .i64 0, .int .i64 0, .int .i64 0] 28 (nog rfl _) rfl (by kernel_rfl) (by kernel_rfl) ?_; intro b11 a12 wd14 hF13 hM15; clear hF8 hM10
 refine s1 hF13 5 (.int .i64 0) ?_; intro a16 hF17; clear hF13
 refine s1 hF17 6 (.int .i64 0) ?_; intro a18 hF19; clear hF17
 refine nlH (hQ5 _ _ ?_); clear hQ5 hQ5Q
 refine wp_seq ?_
 refine sqH ?_; intro hQ20Q hQ20
 refine l2 hF19 hM15 12 1 0 3 [.int .i64 u0.Sent, .int .i64 u0.Got, .int .i64 u0.Rest] rfl rfl ?_; intro a21 hF22; clear hF19
 refine fcl hF22 hM15 (.int .i64 (hcheck u0)) 12 #[.agg #[.int .i64 u0.Sent, .int .i64 u0.Got, .int .i64 u0.Rest]] (nog rfl _) rfl (by kernel_rfl) (fun _ => by kernel_rfl) (hcheck_fun u0 _ _ hM15.fz) ?_; intro a23 wd25 hF24 hM26; clear hF22 hM15
 refine s1 hF24 7 (.int .i64 (hcheck u0)) ?_; intro a27 hF28; clear hF24
 refine nlH (hQ20 _ _ ?_); clear hQ20 hQ20Q
 refine sqH ?_; intro hQ29Q hQ29
 refine s1 hF28 14 (.int .i64 (hcheck u0)) ?_; intro a30 hF31; clear hF28
 refine s1 hF31 15 (.bool ((hcheck u0) != 0)) ?_; intro a32 hF33; clear hF31
 refine nlH (hQ29 _ _ ?_); clear hQ29 hQ29Q
 refine cd hF33 (t := (hcheck u0) != 0) (by kernel_rfl) (fun hb34 => ?_) (fun hb34 => ?_)
 · -- yes
  have hp35 := hp4.1 hb34; clear hp4
  refine sqH ?_; intro hQ36Q hQ36
  refine s1 hF33 16 (.agg #[.int .i64 0, .int .i64 0, .int .i64 0]) ?_; intro a37 hF38; clear hF33
  refine s1 hF38 17 (.int .i64 (hcheck u0)) ?_; intro a39 hF40; clear hF38
  refine sr hF40 hM26 0 [.int .i64 0, .int .i64 0, .int .i64 0] (b := b11) (off := 0) (cs := [.int .i64 0, .int .i64 0, .int .i64 0]) (ty := 28) (u := .agg #[.int .i64 0, .int .i64 0, .int .i64 0]) (nog rfl _) rfl rfl (by kernel_rfl) (by kernel_rfl) (by kernel_rfl) (by kernel_rfl) (by kernel_rfl) (by kernel_rfl) (by kernel_rfl) ?_; intro wd41 hM42; clear hM26
  refine s1 hF40 5 (.int .i64 0) ?_; intro a43 hF44; clear hF40
  refine s1 hF44 6 (.int .i64 (hcheck u0)) ?_; intro a45 hF46; clear hF44
  have hM47 : Mem w.heap.size [] w Z [.row b11 [.int .i64 0, .int .i64 0, .int .i64 0] 28, .row b6 [.int .i64 u0.Sent, .int .i64 u0.Got, .int .i64 u0.Rest] 28] Z wd41 := hM42; clear hM42
  refine nlH (hQ36 _ _ ?_); clear hQ36 hQ36Q
  refine wp_ret ?_
  refine thr ?_
  refine rt (fn := Try.f8) (v := .tuple #[.agg #[.int .i64 0, .int .i64 0, .int .i64 0], .int .i64 0, .int .i64 (hcheck u0)]) hF46 (re3c hF46 (fn := Try.f8) rfl (ad := ⟨b11, 0, none⟩) (by kernel_rfl) (loadVar_run hM47 0 (b := b11) (k := 3) (vs := [.int .i64 0, .int .i64 0, .int .i64 0]) (ty := 28) rfl (by kernel_rfl) (by kernel_rfl)) (by kernel_rfl) (by kernel_rfl)) ?_
  exact ⟨((⟨0, 0, 0⟩ : Health), 0, (hcheck u0)), rfl, hp35, hM47.below⟩
 · -- no
  have hp48 := hp4.2 hb34; clear hp4
  refine wp_skip ?_
  refine thn ?_
  refine wp_seq ?_
  refine sqH ?_; intro hQ49Q hQ49
  refine s1 hF33 18 (.slice ao1 u1.length cap2) ?_; intro a50 hF51; clear hF33
  refine s1 hF51 19 (.int .i64 (u1.length : Int)) ?_; intro a52 hF53; clear hF51
  refine s1 hF53 20 (.bool (decide ((u1.length : Int) > 1000))) ?_; intro a54 hF55; clear hF53
  refine nlH (hQ49 _ _ ?_); clear hQ49 hQ49Q
  refine cd hF55 (t := decide ((u1.length : Int) > 1000)) (by kernel_rfl) (fun hb56 => ?_) (fun hb56 => ?_)
  · -- yes
   have hp57 := hp48.1 hb56; clear hp48
   refine sqH ?_; intro hQ58Q hQ58
   refine s1 hF55 21 (.agg #[.int .i64 0, .int .i64 0, .int .i64 0]) ?_; intro a59 hF60; clear hF55
   refine sr hF60 hM26 0 [.int .i64 0, .int .i64 0, .int .i64 0] (b := b11) (off := 0) (cs := [.int .i64 0, .int .i64 0, .int .i64 0]) (ty := 28) (u := .agg #[.int .i64 0, .int .i64 0, .int .i64 0]) (nog rfl _) rfl rfl (by kernel_rfl) (by kernel_rfl) (by kernel_rfl) (by kernel_rfl) (by kernel_rfl) (by kernel_rfl) (by kernel_rfl) ?_; intro wd61 hM62; clear hM26
   refine s1 hF60 5 (.int .i64 0) ?_; intro a63 hF64; clear hF60
   refine s1 hF64 6 (.int .i64 2) ?_; intro a65 hF66; clear hF64
   have hM67 : Mem w.heap.size [] w Z [.row b11 [.int .i64 0, .int .i64 0, .int .i64 0] 28, .row b6 [.int .i64 u0.Sent, .int .i64 u0.Got, .int .i64 u0.Rest] 28] Z wd61 := hM62; clear hM62
   refine nlH (hQ58 _ _ ?_); clear hQ58 hQ58Q
   refine wp_ret ?_
   refine thr ?_
   refine rt (fn := Try.f8) (v := .tuple #[.agg #[.int .i64 0, .int .i64 0, .int .i64 0], .int .i64 0, .int .i64 2]) hF66 (re3c hF66 (fn := Try.f8) rfl (ad := ⟨b11, 0, none⟩) (by kernel_rfl) (loadVar_run hM67 0 (b := b11) (k := 3) (vs := [.int .i64 0, .int .i64 0, .int .i64 0]) (ty := 28) rfl (by kernel_rfl) (by kernel_rfl)) (by kernel_rfl) (by kernel_rfl)) ?_
   exact ⟨((⟨0, 0, 0⟩ : Health), 0, 2), rfl, hp57, hM67.below⟩
  · -- no
   have hp68 := hp48.2 hb56; clear hp48
   refine wp_skip ?_
   refine thn ?_
   refine wp_seq ?_
   refine sqH ?_; intro hQ69Q hQ69
   refine s1 hF55 22 (.slice ao1 u1.length cap2) ?_; intro a70 hF71; clear hF55
   refine s1 hF71 23 (.int .i64 (u1.length : Int)) ?_; intro a72 hF73; clear hF71
   refine s1 hF73 24 (.int .i64 0) ?_; intro a74 hF75; clear hF73
   refine nlH (hQ69 _ _ ?_); clear hQ69 hQ69Q
   refine wp_block ?_
   have hF76 : Fr 43 [] [⟨2, [], .pointer (some ⟨b6, 0, none⟩)⟩, ⟨4, [], .pointer (some ⟨b11, 0, none⟩)⟩, ⟨22, [], .slice ao1 u1.length cap2⟩, ⟨23, [], .int .i64 (u1.length : Int)⟩, ⟨24, [], .int .i64 0⟩] a74 := hF75.region (by kernel_rfl) (by kernel_rfl); clear hF75
   have hF78 : Fr 43 [] [⟨2, [], .pointer (some ⟨b6, 0, none⟩)⟩, ⟨4, [], .pointer (some ⟨b11, 0, none⟩)⟩, ⟨22, [], .slice ao1 u1.length cap2⟩, ⟨23, [], .int .i64 (u1.length : Int)⟩, ⟨24, [], .int .i64 0⟩] a74 := hF76.region (by kernel_rfl) (by kernel_rfl); clear hF76
   obtain ⟨inv77, mu77, hI81, hr80⟩ := hp68
   refine lp (ι := Int × Health) (fun (s : Int × Health) => [⟨2, [], .pointer (some ⟨b6, 0, none⟩)⟩, ⟨4, [], .pointer (some ⟨b11, 0, none⟩)⟩, ⟨22, [], .slice ao1 u1.length cap2⟩, ⟨23, [], .int .i64 (u1.length : Int)⟩, ⟨24, [], .int .i64 s.1⟩]) (fun (s : Int × Health) => [.row b11 [.int .i64 0, .int .i64 0, .int .i64 0] 28, .row b6 [.int .i64 s.2.Sent, .int .i64 s.2.Got, .int .i64 s.2.Rest] 28]) (fun (s : Int × Health) => Z) (fun (s : Int × Health) => inv77 s.1 s.2) (fun (s : Int × Health) => mu77 s.1 s.2) ⟨0, u0⟩ hI81 (by exact hF78.region (by kernel_rfl) (by kernel_rfl)) (by exact hM26) ?_
   rintro ⟨x24, yb6⟩ hI79 a83 wd84 hF85 hM86
   have hF87 : Fr 43 [] [⟨2, [], .pointer (some ⟨b6, 0, none⟩)⟩, ⟨4, [], .pointer (some ⟨b11, 0, none⟩)⟩, ⟨22, [], .slice ao1 u1.length cap2⟩, ⟨23, [], .int .i64 (u1.length : Int)⟩, ⟨24, [], .int .i64 x24⟩] a83 := hF85; clear hF85 hF78
   have hM88 : Mem w.heap.size [] w Z [.row b11 [.int .i64 0, .int .i64 0, .int .i64 0] 28, .row b6 [.int .i64 yb6.Sent, .int .i64 yb6.Got, .int .i64 yb6.Rest] 28] Z wd84 := hM86; clear hM86 hM26
   have hp89 := hr80 x24 yb6 hI79
   refine sqH ?_; intro hQ90Q hQ90
   refine s1 hF87 25 (.bool (decide (x24 < (u1.length : Int)))) ?_; intro a91 hF92; clear hF87
   refine nlH (hQ90 _ _ ?_); clear hQ90 hQ90Q
   refine wp_seq ?_
   refine cd hF92 (t := decide (x24 < (u1.length : Int))) (by kernel_rfl) (fun hb93 => ?_) (fun hb93 => ?_)
   · -- yes
    have hp94 := hp89.1 hb93; clear hp89
    refine wp_skip ?_
    refine thn ?_
    refine wp_seq ?_
    refine wp_block ?_
    refine sqH ?_; intro hQ95Q hQ95
    refine s1 hF92 26 (.int .i64 x24) ?_; intro a96 hF97; clear hF92
    have hc98 := hp94.1; have hp99 := hp94.2; clear hp94
    refine ix hF97 (T := (tyInt .i64)) (xs := u1) hs3 x24 hc98 (k := .i64) (e := 3) (bytes := 8) (nog rfl _) rfl (by kernel_rfl) rfl (by kernel_rfl) (by kernel_rfl) (by kernel_rfl) ?_; intro b100 off101 cs102 q103 a107 hq104 hP105 hT106 hF108; clear hF97
    have hp109 := hp99 q103 hq104; clear hp99
    obtain rfl : cs102 = ([.int .i64 q103] : List Value) := hT106
    refine z1 hF108 hM88 28 hP105 0 (.int .i64 q103) rfl ?_; intro a110 hF111; clear hF108
    refine s1 hF111 8 (.int .i64 x24) ?_; intro a112 hF113; clear hF111
    refine s1 hF113 9 (.int .i64 q103) ?_; intro a114 hF115; clear hF113
    refine nlH (hQ95 _ _ ?_); clear hQ95 hQ95Q
    refine sqH ?_; intro hQ116Q hQ116
    refine l2 hF115 hM88 30 1 0 3 [.int .i64 yb6.Sent, .int .i64 yb6.Got, .int .i64 yb6.Rest] rfl rfl ?_; intro a117 hF118; clear hF115
    refine s1 hF118 31 (.int .i64 q103) ?_; intro a119 hF120; clear hF118
    refine fcl hF120 hM88 (.tuple #[.agg #[.int .i64 (((hchange yb6 q103).1).Sent), .int .i64 (((hchange yb6 q103).1).Got), .int .i64 (((hchange yb6 q103).1).Rest)], .int .i64 ((hchange yb6 q103).2)]) 17 #[.agg #[.int .i64 yb6.Sent, .int .i64 yb6.Got, .int .i64 yb6.Rest], .int .i64 q103] (nog rfl _) rfl (by kernel_rfl) (fun _ => by kernel_rfl) (hchange_fun yb6 q103 _ _ hM88.fz) ?_; intro a121 wd123 hF122 hM124; clear hF120 hM88
    refine s1 hF122 29 (.tuple #[.agg #[.int .i64 (((hchange yb6 q103).1).Sent), .int .i64 (((hchange yb6 q103).1).Got), .int .i64 (((hchange yb6 q103).1).Rest)], .int .i64 ((hchange yb6 q103).2)]) ?_; intro a125 hF126; clear hF122
    refine s1 hF126 33 (.agg #[.int .i64 (((hchange yb6 q103).1).Sent), .int .i64 (((hchange yb6 q103).1).Got), .int .i64 (((hchange yb6 q103).1).Rest)]) ?_; intro a127 hF128; clear hF126
    refine s1 hF128 34 (.int .i64 ((hchange yb6 q103).2)) ?_; intro a129 hF130; clear hF128
    refine sn hF130 hM124 (fun b => .pointer (some ⟨b, 0, none⟩)) [.int .i64 0, .int .i64 0, .int .i64 0] 28 (nog rfl _) rfl (by kernel_rfl) (by kernel_rfl) ?_; intro b131 a132 wd134 hF133 hM135; clear hF130 hM124
    refine sr hF133 hM135 0 [.int .i64 (((hchange yb6 q103).1).Sent), .int .i64 (((hchange yb6 q103).1).Got), .int .i64 (((hchange yb6 q103).1).Rest)] (b := b131) (off := 0) (cs := [.int .i64 0, .int .i64 0, .int .i64 0]) (ty := 28) (u := .agg #[.int .i64 (((hchange yb6 q103).1).Sent), .int .i64 (((hchange yb6 q103).1).Got), .int .i64 (((hchange yb6 q103).1).Rest)]) (nog rfl _) rfl rfl (by kernel_rfl) (by kernel_rfl) (by kernel_rfl) (by kernel_rfl) (by kernel_rfl) (by kernel_rfl) (by kernel_rfl) ?_; intro wd136 hM137; clear hM135
    refine s1 hF133 11 (.int .i64 ((hchange yb6 q103).2)) ?_; intro a138 hF139; clear hF133
    have hM140 : Mem w.heap.size [] w Z [.row b131 [.int .i64 (((hchange yb6 q103).1).Sent), .int .i64 (((hchange yb6 q103).1).Got), .int .i64 (((hchange yb6 q103).1).Rest)] 28, .row b11 [.int .i64 0, .int .i64 0, .int .i64 0] 28, .row b6 [.int .i64 yb6.Sent, .int .i64 yb6.Got, .int .i64 yb6.Rest] 28] Z wd136 := hM137; clear hM137
    refine nlH (hQ116 _ _ ?_); clear hQ116 hQ116Q
    refine wp_seq ?_
    have hF141 : Fr 43 [] [⟨2, [], .pointer (some ⟨b6, 0, none⟩)⟩, ⟨4, [], .pointer (some ⟨b11, 0, none⟩)⟩, ⟨8, [], .int .i64 x24⟩, ⟨10, [], .pointer (some ⟨b131, 0, none⟩)⟩, ⟨11, [], .int .i64 ((hchange yb6 q103).2)⟩, ⟨22, [], .slice ao1 u1.length cap2⟩, ⟨23, [], .int .i64 (u1.length : Int)⟩, ⟨24, [], .int .i64 x24⟩] a138 := hF139.region (by kernel_rfl) (by kernel_rfl); clear hF139
    refine sqH ?_; intro hQ142Q hQ142
    refine s1 hF141 35 (.int .i64 ((hchange yb6 q103).2)) ?_; intro a143 hF144; clear hF141
    refine s1 hF144 36 (.bool (((hchange yb6 q103).2) != 0)) ?_; intro a145 hF146; clear hF144
    refine nlH (hQ142 _ _ ?_); clear hQ142 hQ142Q
    refine cd hF146 (t := ((hchange yb6 q103).2) != 0) (by kernel_rfl) (fun hb147 => ?_) (fun hb147 => ?_)
    · -- yes
     have hp148 := hp109.1 hb147; clear hp109
     refine sqH ?_; intro hQ149Q hQ149
     refine s1 hF146 37 (.agg #[.int .i64 0, .int .i64 0, .int .i64 0]) ?_; intro a150 hF151; clear hF146
     refine s1 hF151 38 (.int .i64 x24) ?_; intro a152 hF153; clear hF151
     refine s1 hF153 39 (.int .i64 ((hchange yb6 q103).2)) ?_; intro a154 hF155; clear hF153
     refine sr hF155 hM140 1 [.int .i64 0, .int .i64 0, .int .i64 0] (b := b11) (off := 0) (cs := [.int .i64 0, .int .i64 0, .int .i64 0]) (ty := 28) (u := .agg #[.int .i64 0, .int .i64 0, .int .i64 0]) (nog rfl _) rfl rfl (by kernel_rfl) (by kernel_rfl) (by kernel_rfl) (by kernel_rfl) (by kernel_rfl) (by kernel_rfl) (by kernel_rfl) ?_; intro wd156 hM157; clear hM140
     refine s1 hF155 5 (.int .i64 x24) ?_; intro a158 hF159; clear hF155
     refine s1 hF159 6 (.int .i64 ((hchange yb6 q103).2)) ?_; intro a160 hF161; clear hF159
     have hM162 : Mem w.heap.size [] w Z [.row b131 [.int .i64 (((hchange yb6 q103).1).Sent), .int .i64 (((hchange yb6 q103).1).Got), .int .i64 (((hchange yb6 q103).1).Rest)] 28, .row b11 [.int .i64 0, .int .i64 0, .int .i64 0] 28, .row b6 [.int .i64 yb6.Sent, .int .i64 yb6.Got, .int .i64 yb6.Rest] 28] Z wd156 := hM157; clear hM157
     refine nlH (hQ149 _ _ ?_); clear hQ149 hQ149Q
     refine wp_ret ?_
     refine thr ?_
     refine ibr ?_
     refine thr ?_
     refine thr ?_
     refine ibr ?_
     refine thr ?_
     refine rt (fn := Try.f8) (v := .tuple #[.agg #[.int .i64 0, .int .i64 0, .int .i64 0], .int .i64 x24, .int .i64 ((hchange yb6 q103).2)]) hF161 (re3c hF161 (fn := Try.f8) rfl (ad := ⟨b11, 0, none⟩) (by kernel_rfl) (loadVar_run hM162 1 (b := b11) (k := 3) (vs := [.int .i64 0, .int .i64 0, .int .i64 0]) (ty := 28) rfl (by kernel_rfl) (by kernel_rfl)) (by kernel_rfl) (by kernel_rfl)) ?_
     exact ⟨((⟨0, 0, 0⟩ : Health), x24, (hchange yb6 q103).2), rfl, hp148, hM162.below⟩
    · -- no
     have hp163 := hp109.2 hb147; clear hp109
     refine wp_skip ?_
     refine thn ?_
     refine rgH ?_; intro hQ164Q hQ164
     refine l2 hF146 hM140 40 0 0 3 [.int .i64 (((hchange yb6 q103).1).Sent), .int .i64 (((hchange yb6 q103).1).Got), .int .i64 (((hchange yb6 q103).1).Rest)] rfl rfl ?_; intro a165 hF166; clear hF146
     refine sr hF166 hM140 2 [.int .i64 (((hchange yb6 q103).1).Sent), .int .i64 (((hchange yb6 q103).1).Got), .int .i64 (((hchange yb6 q103).1).Rest)] (b := b6) (off := 0) (cs := [.int .i64 yb6.Sent, .int .i64 yb6.Got, .int .i64 yb6.Rest]) (ty := 28) (u := .agg #[.int .i64 (((hchange yb6 q103).1).Sent), .int .i64 (((hchange yb6 q103).1).Got), .int .i64 (((hchange yb6 q103).1).Rest)]) (nog rfl _) rfl rfl (by kernel_rfl) (by kernel_rfl) (by kernel_rfl) (by kernel_rfl) (by kernel_rfl) (by kernel_rfl) (by kernel_rfl) ?_; intro wd167 hM168; clear hM140
     have hM169 : Mem w.heap.size [] w Z [.row b131 [.int .i64 (((hchange yb6 q103).1).Sent), .int .i64 (((hchange yb6 q103).1).Got), .int .i64 (((hchange yb6 q103).1).Rest)] 28, .row b11 [.int .i64 0, .int .i64 0, .int .i64 0] 28, .row b6 [.int .i64 (((hchange yb6 q103).1).Sent), .int .i64 (((hchange yb6 q103).1).Got), .int .i64 (((hchange yb6 q103).1).Rest)] 28] Z wd167 := hM168; clear hM168
     refine nlH (hQ164 _ _ ?_); clear hQ164 hQ164Q
     refine ibn ?_
     refine thn ?_
     refine rgH ?_; intro hQ170Q hQ170
     refine s1 hF166 41 (.int .i64 (w64 (x24 + 1))) ?_; intro a171 hF172; clear hF166
     refine s1 hF172 24 (.int .i64 (w64 (x24 + 1))) ?_; intro a173 hF174; clear hF172
     refine nlH (hQ170 _ _ ?_); clear hQ170 hQ170Q
     refine rd ?_
     exact ⟨⟨w64 (x24 + 1), ((hchange yb6 q103).1)⟩, hp163.1, hp163.2, (hF174.region (by kernel_rfl) (by kernel_rfl)).anyβ _ (by kernel_rfl), hM169.keep (List.Sublist.cons _ (List.Sublist.cons_cons _ (List.Sublist.cons_cons _ (List.Sublist.slnil))))⟩
   · -- no
    have hp175 := hp89.2 hb93; clear hp89
    refine wp_exit ?_
    refine thx ?_
    refine thx ?_
    refine ibx ?_
    refine thn ?_
    refine sqH ?_; intro hQ176Q hQ176
    refine l2 hF92 hM88 42 1 0 3 [.int .i64 yb6.Sent, .int .i64 yb6.Got, .int .i64 yb6.Rest] rfl rfl ?_; intro a177 hF178; clear hF92
    refine sr hF178 hM88 0 [.int .i64 yb6.Sent, .int .i64 yb6.Got, .int .i64 yb6.Rest] (b := b11) (off := 0) (cs := [.int .i64 0, .int .i64 0, .int .i64 0]) (ty := 28) (u := .agg #[.int .i64 yb6.Sent, .int .i64 yb6.Got, .int .i64 yb6.Rest]) (nog rfl _) rfl rfl (by kernel_rfl) (by kernel_rfl) (by kernel_rfl) (by kernel_rfl) (by kernel_rfl) (by kernel_rfl) (by kernel_rfl) ?_; intro wd179 hM180; clear hM88
    refine s1 hF178 5 (.int .i64 0) ?_; intro a181 hF182; clear hF178
    refine s1 hF182 6 (.int .i64 0) ?_; intro a183 hF184; clear hF182
    have hM185 : Mem w.heap.size [] w Z [.row b11 [.int .i64 yb6.Sent, .int .i64 yb6.Got, .int .i64 yb6.Rest] 28, .row b6 [.int .i64 yb6.Sent, .int .i64 yb6.Got, .int .i64 yb6.Rest] 28] Z wd179 := hM180; clear hM180
    refine nlH (hQ176 _ _ ?_); clear hQ176 hQ176Q
    refine wp_ret ?_
    refine rt (fn := Try.f8) (v := .tuple #[.agg #[.int .i64 yb6.Sent, .int .i64 yb6.Got, .int .i64 yb6.Rest], .int .i64 0, .int .i64 0]) hF184 (re3c hF184 (fn := Try.f8) rfl (ad := ⟨b11, 0, none⟩) (by kernel_rfl) (loadVar_run hM185 0 (b := b11) (k := 3) (vs := [.int .i64 yb6.Sent, .int .i64 yb6.Got, .int .i64 yb6.Rest]) (ty := 28) rfl (by kernel_rfl) (by kernel_rfl)) (by kernel_rfl) (by kernel_rfl)) ?_
    exact ⟨(yb6, 0, 0), rfl, hp175, hM185.below⟩

set_option maxRecDepth 100000 in
theorem mul64_walk (u0 : Int) (u1 : Int)  (Z : Fz) (w : World)  (hZ : Z.on w) {K : (Int × Int) → Prop} (hp : mul64_vc u0 u1 K) : Calls Try.prog 22 #[.int .u64 u0, .int .u64 u1] w fun e w' => ∃ r : Int × Int, e = .returned (.tuple #[.int .u64 r.1, .int .u64 r.2]) ∧ K r ∧ Below w.heap.size w w' := by
 refine enter0 Try.func22 rfl rfl (by kernel_rfl) ?_; intro a0 hF0; have hM0 := Mem.start w Z hZ; have hle0 := Fz.le.refl Z
 refine sqH ?_; intro hQ1Q hQ1
 refine s1 hF0 4 (.int .u64 0) ?_; intro a2 hF3; clear hF0
 refine s1 hF3 5 (.int .u64 0) ?_; intro a4 hF5; clear hF3
 refine nlH (hQ1 _ _ ?_); clear hQ1 hQ1Q
 refine sqH ?_; intro hQ6Q hQ6
 refine s1 hF5 14 (.int .u64 u0) ?_; intro a7 hF8; clear hF5
 refine s1 hF8 15 (.int .u64 (bAnd .u64 u0 4294967295)) ?_; intro a9 hF10; clear hF8
 refine s1 hF10 6 (.int .u64 (bAnd .u64 u0 4294967295)) ?_; intro a11 hF12; clear hF10
 refine nlH (hQ6 _ _ ?_); clear hQ6 hQ6Q
 refine sqH ?_; intro hQ13Q hQ13
 refine s1 hF12 16 (.int .u64 u0) ?_; intro a14 hF15; clear hF12
 refine s1 hF15 17 (.int .u64 (bShr .u64 u0 32)) ?_; intro a16 hF17; clear hF15
 refine s1 hF17 7 (.int .u64 (bShr .u64 u0 32)) ?_; intro a18 hF19; clear hF17
 refine nlH (hQ13 _ _ ?_); clear hQ13 hQ13Q
 refine sqH ?_; intro hQ20Q hQ20
 refine s1 hF19 18 (.int .u64 u1) ?_; intro a21 hF22; clear hF19
 refine s1 hF22 19 (.int .u64 (bAnd .u64 u1 4294967295)) ?_; intro a23 hF24; clear hF22
 refine s1 hF24 8 (.int .u64 (bAnd .u64 u1 4294967295)) ?_; intro a25 hF26; clear hF24
 refine nlH (hQ20 _ _ ?_); clear hQ20 hQ20Q
 refine sqH ?_; intro hQ27Q hQ27
 refine s1 hF26 20 (.int .u64 u1) ?_; intro a28 hF29; clear hF26
 refine s1 hF29 21 (.int .u64 (bShr .u64 u1 32)) ?_; intro a30 hF31; clear hF29
 refine s1 hF31 9 (.int .u64 (bShr .u64 u1 32)) ?_; intro a32 hF33; clear hF31
 refine nlH (hQ27 _ _ ?_); clear hQ27 hQ27Q
 have hF34 : Fr 51 [] [⟨0, [], .int .u64 u0⟩, ⟨1, [], .int .u64 u1⟩, ⟨6, [], .int .u64 (bAnd .u64 u0 4294967295)⟩, ⟨7, [], .int .u64 (bShr .u64 u0 32)⟩, ⟨8, [], .int .u64 (bAnd .u64 u1 4294967295)⟩, ⟨9, [], .int .u64 (bShr .u64 u1 32)⟩] a32 := hF33.region (by kernel_rfl) (by kernel_rfl); clear hF33
 refine sqH ?_; intro hQ35Q hQ35
 refine s1 hF34 22 (.int .u64 (bAnd .u64 u0 4294967295)) ?_; intro a36 hF37; clear hF34
 refine s1 hF37 23 (.int .u64 (bAnd .u64 u1 4294967295)) ?_; intro a38 hF39; clear hF37
 refine s1 hF39 24 (.int .u64 (wu64 ((bAnd .u64 u0 4294967295) * (bAnd .u64 u1 4294967295)))) ?_; intro a40 hF41; clear hF39
 refine s1 hF41 10 (.int .u64 (wu64 ((bAnd .u64 u0 4294967295) * (bAnd .u64 u1 4294967295)))) ?_; intro a42 hF43; clear hF41
 refine nlH (hQ35 _ _ ?_); clear hQ35 hQ35Q
 refine sqH ?_; intro hQ44Q hQ44
 refine s1 hF43 25 (.int .u64 (bShr .u64 u0 32)) ?_; intro a45 hF46; clear hF43
 refine s1 hF46 26 (.int .u64 (bAnd .u64 u1 4294967295)) ?_; intro a47 hF48; clear hF46
 refine s1 hF48 27 (.int .u64 (wu64 ((bShr .u64 u0 32) * (bAnd .u64 u1 4294967295)))) ?_; intro a49 hF50; clear hF48
 refine s1 hF50 28 (.int .u64 (wu64 ((bAnd .u64 u0 4294967295) * (bAnd .u64 u1 4294967295)))) ?_; intro a51 hF52; clear hF50
 refine s1 hF52 29 (.int .u64 (bShr .u64 (wu64 ((bAnd .u64 u0 4294967295) * (bAnd .u64 u1 4294967295))) 32)) ?_; intro a53 hF54; clear hF52
 refine s1 hF54 30 (.int .u64 (wu64 ((wu64 ((bShr .u64 u0 32) * (bAnd .u64 u1 4294967295))) + (bShr .u64 (wu64 ((bAnd .u64 u0 4294967295) * (bAnd .u64 u1 4294967295))) 32)))) ?_; intro a55 hF56; clear hF54
 refine s1 hF56 11 (.int .u64 (wu64 ((wu64 ((bShr .u64 u0 32) * (bAnd .u64 u1 4294967295))) + (bShr .u64 (wu64 ((bAnd .u64 u0 4294967295) * (bAnd .u64 u1 4294967295))) 32)))) ?_; intro a57 hF58; clear hF56
 refine nlH (hQ44 _ _ ?_); clear hQ44 hQ44Q
 refine sqH ?_; intro hQ59Q hQ59
 refine s1 hF58 31 (.int .u64 (wu64 ((wu64 ((bShr .u64 u0 32) * (bAnd .u64 u1 4294967295))) + (bShr .u64 (wu64 ((bAnd .u64 u0 4294967295) * (bAnd .u64 u1 4294967295))) 32)))) ?_; intro a60 hF61; clear hF58
 refine s1 hF61 32 (.int .u64 (bAnd .u64 (wu64 ((wu64 ((bShr .u64 u0 32) * (bAnd .u64 u1 4294967295))) + (bShr .u64 (wu64 ((bAnd .u64 u0 4294967295) * (bAnd .u64 u1 4294967295))) 32))) 4294967295)) ?_; intro a62 hF63; clear hF61
 refine s1 hF63 12 (.int .u64 (bAnd .u64 (wu64 ((wu64 ((bShr .u64 u0 32) * (bAnd .u64 u1 4294967295))) + (bShr .u64 (wu64 ((bAnd .u64 u0 4294967295) * (bAnd .u64 u1 4294967295))) 32))) 4294967295)) ?_; intro a64 hF65; clear hF63
 refine nlH (hQ59 _ _ ?_); clear hQ59 hQ59Q
 have hF66 : Fr 51 [] [⟨0, [], .int .u64 u0⟩, ⟨1, [], .int .u64 u1⟩, ⟨6, [], .int .u64 (bAnd .u64 u0 4294967295)⟩, ⟨7, [], .int .u64 (bShr .u64 u0 32)⟩, ⟨9, [], .int .u64 (bShr .u64 u1 32)⟩, ⟨11, [], .int .u64 (wu64 ((wu64 ((bShr .u64 u0 32) * (bAnd .u64 u1 4294967295))) + (bShr .u64 (wu64 ((bAnd .u64 u0 4294967295) * (bAnd .u64 u1 4294967295))) 32)))⟩, ⟨12, [], .int .u64 (bAnd .u64 (wu64 ((wu64 ((bShr .u64 u0 32) * (bAnd .u64 u1 4294967295))) + (bShr .u64 (wu64 ((bAnd .u64 u0 4294967295) * (bAnd .u64 u1 4294967295))) 32))) 4294967295)⟩] a64 := hF65.region (by kernel_rfl) (by kernel_rfl); clear hF65
 refine sqH ?_; intro hQ67Q hQ67
 refine s1 hF66 33 (.int .u64 (wu64 ((wu64 ((bShr .u64 u0 32) * (bAnd .u64 u1 4294967295))) + (bShr .u64 (wu64 ((bAnd .u64 u0 4294967295) * (bAnd .u64 u1 4294967295))) 32)))) ?_; intro a68 hF69; clear hF66
 refine s1 hF69 34 (.int .u64 (bShr .u64 (wu64 ((wu64 ((bShr .u64 u0 32) * (bAnd .u64 u1 4294967295))) + (bShr .u64 (wu64 ((bAnd .u64 u0 4294967295) * (bAnd .u64 u1 4294967295))) 32))) 32)) ?_; intro a70 hF71; clear hF69
 refine s1 hF71 13 (.int .u64 (bShr .u64 (wu64 ((wu64 ((bShr .u64 u0 32) * (bAnd .u64 u1 4294967295))) + (bShr .u64 (wu64 ((bAnd .u64 u0 4294967295) * (bAnd .u64 u1 4294967295))) 32))) 32)) ?_; intro a72 hF73; clear hF71
 refine nlH (hQ67 _ _ ?_); clear hQ67 hQ67Q
 refine sqH ?_; intro hQ74Q hQ74
 refine s1 hF73 35 (.int .u64 (bAnd .u64 (wu64 ((wu64 ((bShr .u64 u0 32) * (bAnd .u64 u1 4294967295))) + (bShr .u64 (wu64 ((bAnd .u64 u0 4294967295) * (bAnd .u64 u1 4294967295))) 32))) 4294967295)) ?_; intro a75 hF76; clear hF73
 refine s1 hF76 36 (.int .u64 (bAnd .u64 u0 4294967295)) ?_; intro a77 hF78; clear hF76
 refine s1 hF78 37 (.int .u64 (bShr .u64 u1 32)) ?_; intro a79 hF80; clear hF78
 refine s1 hF80 38 (.int .u64 (wu64 ((bAnd .u64 u0 4294967295) * (bShr .u64 u1 32)))) ?_; intro a81 hF82; clear hF80
 refine s1 hF82 39 (.int .u64 (wu64 ((bAnd .u64 (wu64 ((wu64 ((bShr .u64 u0 32) * (bAnd .u64 u1 4294967295))) + (bShr .u64 (wu64 ((bAnd .u64 u0 4294967295) * (bAnd .u64 u1 4294967295))) 32))) 4294967295) + (wu64 ((bAnd .u64 u0 4294967295) * (bShr .u64 u1 32)))))) ?_; intro a83 hF84; clear hF82
 refine s1 hF84 12 (.int .u64 (wu64 ((bAnd .u64 (wu64 ((wu64 ((bShr .u64 u0 32) * (bAnd .u64 u1 4294967295))) + (bShr .u64 (wu64 ((bAnd .u64 u0 4294967295) * (bAnd .u64 u1 4294967295))) 32))) 4294967295) + (wu64 ((bAnd .u64 u0 4294967295) * (bShr .u64 u1 32)))))) ?_; intro a85 hF86; clear hF84
 refine nlH (hQ74 _ _ ?_); clear hQ74 hQ74Q
 refine sqH ?_; intro hQ87Q hQ87
 refine s1 hF86 40 (.int .u64 (bShr .u64 u0 32)) ?_; intro a88 hF89; clear hF86
 refine s1 hF89 41 (.int .u64 (bShr .u64 u1 32)) ?_; intro a90 hF91; clear hF89
 refine s1 hF91 42 (.int .u64 (wu64 ((bShr .u64 u0 32) * (bShr .u64 u1 32)))) ?_; intro a92 hF93; clear hF91
 refine s1 hF93 43 (.int .u64 (bShr .u64 (wu64 ((wu64 ((bShr .u64 u0 32) * (bAnd .u64 u1 4294967295))) + (bShr .u64 (wu64 ((bAnd .u64 u0 4294967295) * (bAnd .u64 u1 4294967295))) 32))) 32)) ?_; intro a94 hF95; clear hF93
 refine s1 hF95 44 (.int .u64 (wu64 ((wu64 ((bShr .u64 u0 32) * (bShr .u64 u1 32))) + (bShr .u64 (wu64 ((wu64 ((bShr .u64 u0 32) * (bAnd .u64 u1 4294967295))) + (bShr .u64 (wu64 ((bAnd .u64 u0 4294967295) * (bAnd .u64 u1 4294967295))) 32))) 32)))) ?_; intro a96 hF97; clear hF95
 refine s1 hF97 45 (.int .u64 (wu64 ((bAnd .u64 (wu64 ((wu64 ((bShr .u64 u0 32) * (bAnd .u64 u1 4294967295))) + (bShr .u64 (wu64 ((bAnd .u64 u0 4294967295) * (bAnd .u64 u1 4294967295))) 32))) 4294967295) + (wu64 ((bAnd .u64 u0 4294967295) * (bShr .u64 u1 32)))))) ?_; intro a98 hF99; clear hF97
 refine s1 hF99 46 (.int .u64 (bShr .u64 (wu64 ((bAnd .u64 (wu64 ((wu64 ((bShr .u64 u0 32) * (bAnd .u64 u1 4294967295))) + (bShr .u64 (wu64 ((bAnd .u64 u0 4294967295) * (bAnd .u64 u1 4294967295))) 32))) 4294967295) + (wu64 ((bAnd .u64 u0 4294967295) * (bShr .u64 u1 32))))) 32)) ?_; intro a100 hF101; clear hF99
 refine s1 hF101 47 (.int .u64 (wu64 ((wu64 ((wu64 ((bShr .u64 u0 32) * (bShr .u64 u1 32))) + (bShr .u64 (wu64 ((wu64 ((bShr .u64 u0 32) * (bAnd .u64 u1 4294967295))) + (bShr .u64 (wu64 ((bAnd .u64 u0 4294967295) * (bAnd .u64 u1 4294967295))) 32))) 32))) + (bShr .u64 (wu64 ((bAnd .u64 (wu64 ((wu64 ((bShr .u64 u0 32) * (bAnd .u64 u1 4294967295))) + (bShr .u64 (wu64 ((bAnd .u64 u0 4294967295) * (bAnd .u64 u1 4294967295))) 32))) 4294967295) + (wu64 ((bAnd .u64 u0 4294967295) * (bShr .u64 u1 32))))) 32)))) ?_; intro a102 hF103; clear hF101
 refine s1 hF103 4 (.int .u64 (wu64 ((wu64 ((wu64 ((bShr .u64 u0 32) * (bShr .u64 u1 32))) + (bShr .u64 (wu64 ((wu64 ((bShr .u64 u0 32) * (bAnd .u64 u1 4294967295))) + (bShr .u64 (wu64 ((bAnd .u64 u0 4294967295) * (bAnd .u64 u1 4294967295))) 32))) 32))) + (bShr .u64 (wu64 ((bAnd .u64 (wu64 ((wu64 ((bShr .u64 u0 32) * (bAnd .u64 u1 4294967295))) + (bShr .u64 (wu64 ((bAnd .u64 u0 4294967295) * (bAnd .u64 u1 4294967295))) 32))) 4294967295) + (wu64 ((bAnd .u64 u0 4294967295) * (bShr .u64 u1 32))))) 32)))) ?_; intro a104 hF105; clear hF103
 refine nlH (hQ87 _ _ ?_); clear hQ87 hQ87Q
 have hF106 : Fr 51 [] [⟨0, [], .int .u64 u0⟩, ⟨1, [], .int .u64 u1⟩, ⟨4, [], .int .u64 (wu64 ((wu64 ((wu64 ((bShr .u64 u0 32) * (bShr .u64 u1 32))) + (bShr .u64 (wu64 ((wu64 ((bShr .u64 u0 32) * (bAnd .u64 u1 4294967295))) + (bShr .u64 (wu64 ((bAnd .u64 u0 4294967295) * (bAnd .u64 u1 4294967295))) 32))) 32))) + (bShr .u64 (wu64 ((bAnd .u64 (wu64 ((wu64 ((bShr .u64 u0 32) * (bAnd .u64 u1 4294967295))) + (bShr .u64 (wu64 ((bAnd .u64 u0 4294967295) * (bAnd .u64 u1 4294967295))) 32))) 4294967295) + (wu64 ((bAnd .u64 u0 4294967295) * (bShr .u64 u1 32))))) 32)))⟩] a104 := hF105.region (by kernel_rfl) (by kernel_rfl); clear hF105
 refine sqH ?_; intro hQ107Q hQ107
 refine s1 hF106 48 (.int .u64 u0) ?_; intro a108 hF109; clear hF106
 refine s1 hF109 49 (.int .u64 u1) ?_; intro a110 hF111; clear hF109
 refine s1 hF111 50 (.int .u64 (wu64 (u0 * u1))) ?_; intro a112 hF113; clear hF111
 refine s1 hF113 5 (.int .u64 (wu64 (u0 * u1))) ?_; intro a114 hF115; clear hF113
 refine nlH (hQ107 _ _ ?_); clear hQ107 hQ107Q
 refine wp_ret ?_
 refine rt (fn := Try.f22) (v := .tuple #[.int .u64 (wu64 ((wu64 ((wu64 ((bShr .u64 u0 32) * (bShr .u64 u1 32))) + (bShr .u64 (wu64 ((wu64 ((bShr .u64 u0 32) * (bAnd .u64 u1 4294967295))) + (bShr .u64 (wu64 ((bAnd .u64 u0 4294967295) * (bAnd .u64 u1 4294967295))) 32))) 32))) + (bShr .u64 (wu64 ((bAnd .u64 (wu64 ((wu64 ((bShr .u64 u0 32) * (bAnd .u64 u1 4294967295))) + (bShr .u64 (wu64 ((bAnd .u64 u0 4294967295) * (bAnd .u64 u1 4294967295))) 32))) 4294967295) + (wu64 ((bAnd .u64 u0 4294967295) * (bShr .u64 u1 32))))) 32))), .int .u64 (wu64 (u0 * u1))]) hF115 (re2 hF115 (fn := Try.f22) rfl (by kernel_rfl) (by kernel_rfl)) ?_
 exact ⟨(wu64 ((wu64 ((wu64 ((bShr .u64 u0 32) * (bShr .u64 u1 32))) + (bShr .u64 (wu64 ((wu64 ((bShr .u64 u0 32) * (bAnd .u64 u1 4294967295))) + (bShr .u64 (wu64 ((bAnd .u64 u0 4294967295) * (bAnd .u64 u1 4294967295))) 32))) 32))) + (bShr .u64 (wu64 ((bAnd .u64 (wu64 ((wu64 ((bShr .u64 u0 32) * (bAnd .u64 u1 4294967295))) + (bShr .u64 (wu64 ((bAnd .u64 u0 4294967295) * (bAnd .u64 u1 4294967295))) 32))) 4294967295) + (wu64 ((bAnd .u64 u0 4294967295) * (bShr .u64 u1 32))))) 32)), wu64 (u0 * u1)), rfl, hp, hM0.below⟩
theorem mul64_fun (u0 : Int) (u1 : Int)  (Z : Fz) (w : World)  (hZ : Z.on w) : Calls Try.prog 22 #[.int .u64 u0, .int .u64 u1] w fun e w' => e = .returned (.tuple #[.int .u64 ((mul64 u0 u1).1), .int .u64 ((mul64 u0 u1).2)]) ∧ Below w.heap.size w w' :=
  (mul64_walk u0 u1  Z w  hZ (mul64_ok u0 u1)).mono fun _ _ ⟨r, he, hk, hb⟩ => ⟨by subst hk; exact he, hb⟩

set_option maxRecDepth 100000 in
theorem bmul_walk (u0 : Int) (u1 : Int)  (Z : Fz) (w : World)  (hZ : Z.on w) {K : (Int × Int) → Prop} (hp : bmul_vc u0 u1 K) : Calls Try.prog 20 #[.int .u64 u0, .int .u64 u1] w fun e w' => ∃ r : Int × Int, e = .returned (.tuple #[.int .u64 r.1, .int .u64 r.2]) ∧ K r ∧ Below w.heap.size w w' := by
 refine enter0 Try.func20 rfl rfl (by kernel_rfl) ?_; intro a0 hF0; have hM0 := Mem.start w Z hZ; have hle0 := Fz.le.refl Z
 refine sqH ?_; intro hQ1Q hQ1
 refine s1 hF0 4 (.int .u64 0) ?_; intro a2 hF3; clear hF0
 refine s1 hF3 5 (.int .u64 0) ?_; intro a4 hF5; clear hF3
 refine nlH (hQ1 _ _ ?_); clear hQ1 hQ1Q
 refine wp_seq ?_
 refine cdF hF5 (by kernel_rfl) ?_
 refine wp_skip ?_
 refine thn ?_
 refine sqH ?_; intro hQ6Q hQ6
 refine s1 hF5 23 (.int .u64 u0) ?_; intro a7 hF8; clear hF5
 refine s1 hF8 24 (.int .u64 u1) ?_; intro a9 hF10; clear hF8
 refine fcl hF10 hM0 (.tuple #[.int .u64 ((mul64 u0 u1).1), .int .u64 ((mul64 u0 u1).2)]) 22 #[.int .u64 u0, .int .u64 u1] (nog rfl _) rfl (by kernel_rfl) (fun _ => by kernel_rfl) (mul64_fun u0 u1 _ _ hM0.fz) ?_; intro a11 wd13 hF12 hM14; clear hF10 hM0
 refine s1 hF12 22 (.tuple #[.int .u64 ((mul64 u0 u1).1), .int .u64 ((mul64 u0 u1).2)]) ?_; intro a15 hF16; clear hF12
 refine s1 hF16 26 (.int .u64 ((mul64 u0 u1).1)) ?_; intro a17 hF18; clear hF16
 refine s1 hF18 27 (.int .u64 ((mul64 u0 u1).2)) ?_; intro a19 hF20; clear hF18
 refine s1 hF20 8 (.int .u64 ((mul64 u0 u1).1)) ?_; intro a21 hF22; clear hF20
 refine s1 hF22 9 (.int .u64 ((mul64 u0 u1).2)) ?_; intro a23 hF24; clear hF22
 refine nlH (hQ6 _ _ ?_); clear hQ6 hQ6Q
 refine sqH ?_; intro hQ25Q hQ25
 refine s1 hF24 28 (.int .u64 ((mul64 u0 u1).1)) ?_; intro a26 hF27; clear hF24
 refine s1 hF27 29 (.int .u64 ((mul64 u0 u1).2)) ?_; intro a28 hF29; clear hF27
 refine s1 hF29 4 (.int .u64 ((mul64 u0 u1).1)) ?_; intro a30 hF31; clear hF29
 refine s1 hF31 5 (.int .u64 ((mul64 u0 u1).2)) ?_; intro a32 hF33; clear hF31
 refine nlH (hQ25 _ _ ?_); clear hQ25 hQ25Q
 refine wp_ret ?_
 refine rt (fn := Try.f20) (v := .tuple #[.int .u64 ((mul64 u0 u1).1), .int .u64 ((mul64 u0 u1).2)]) hF33 (re2 hF33 (fn := Try.f20) rfl (by kernel_rfl) (by kernel_rfl)) ?_
 exact ⟨((mul64 u0 u1).1, (mul64 u0 u1).2), rfl, hp, hM14.below⟩
theorem bmul_fun (u0 : Int) (u1 : Int)  (Z : Fz) (w : World)  (hZ : Z.on w) : Calls Try.prog 20 #[.int .u64 u0, .int .u64 u1] w fun e w' => e = .returned (.tuple #[.int .u64 ((bmul u0 u1).1), .int .u64 ((bmul u0 u1).2)]) ∧ Below w.heap.size w w' :=
  (bmul_walk u0 u1  Z w  hZ (bmul_ok u0 u1)).mono fun _ _ ⟨r, he, hk, hb⟩ => ⟨by subst hk; exact he, hb⟩

set_option maxRecDepth 100000 in
theorem srep_walk (u0 : List Int) (u1 : Int) (ao1 : Option Addr) (cap2 : Nat) (Z : Fz) (w : World) (hs3 : SlR (tyInt .i64) Z ao1 cap2 u0) (hZ : Z.on w) {K : (List Int) → Prop} (hp : srep_vc u0 u1 K) : Calls Try.prog 15 #[.slice ao1 u0.length cap2, .int .i64 u1] w fun e w' => ∃ (r : (List Int)) (ao1001 : Option Addr) (cap1002 : Nat) (Z' : Fz), e = .returned (.slice ao1001 r.length cap1002) ∧ K r ∧ Mem w.heap.size [] w Z [.own (tyInt .i64) 3 ao1001 cap1002 r] Z' w' := by
 refine enter0 Try.func15 rfl rfl (by kernel_rfl) ?_; intro a0 hF0; have hM0 := Mem.start w Z hZ; have hle0 := Fz.le.refl Z
 have hp4 := hp (hs3.small); clear hp
 refine sqH ?_; intro hQ5Q hQ5
 refine s1 hF0 4 (.slice none 0 0) ?_; intro a6 hF7; clear hF0
 refine nlH (hQ5 _ _ ?_); clear hQ5 hQ5Q
 refine wp_seq ?_
 refine sqH ?_; intro hQ8Q hQ8
 refine s1 hF7 9 (.int .i64 u1) ?_; intro a9 hF10; clear hF7
 refine s1 hF10 10 (.bool (decide (u1 < 0))) ?_; intro a11 hF12; clear hF10
 refine nlH (hQ8 _ _ ?_); clear hQ8 hQ8Q
 refine cd hF12 (t := decide (u1 < 0)) (by kernel_rfl) (fun hb13 => ?_) (fun hb13 => ?_)
 · -- yes
  have hp14 := hp4.1 hb13; clear hp4
  exact False.elim hp14
 · -- no
  have hp15 := hp4.2 hb13; clear hp4
  refine wp_skip ?_
  refine thn ?_
  refine sqH ?_; intro hQ16Q hQ16
  refine s1 hF12 13 (.slice ao1 u0.length cap2) ?_; intro a17 hF18; clear hF12
  refine s1 hF18 14 (.int .i64 (u0.length : Int)) ?_; intro a19 hF20; clear hF18
  refine s1 hF20 15 (.int .u64 (wu64 (u0.length : Int))) ?_; intro a21 hF22; clear hF20
  refine s1 hF22 16 (.int .i64 u1) ?_; intro a23 hF24; clear hF22
  refine s1 hF24 17 (.int .u64 (wu64 u1)) ?_; intro a25 hF26; clear hF24
  refine fcl hF26 hM0 (.tuple #[.int .u64 ((bmul (wu64 (u0.length : Int)) (wu64 u1)).1), .int .u64 ((bmul (wu64 (u0.length : Int)) (wu64 u1)).2)]) 20 #[.int .u64 (wu64 (u0.length : Int)), .int .u64 (wu64 u1)] (nog rfl _) rfl (by kernel_rfl) (fun _ => by kernel_rfl) (bmul_fun (wu64 (u0.length : Int)) (wu64 u1) _ _ hM0.fz) ?_; intro a27 wd29 hF28 hM30; clear hF26 hM0
  refine s1 hF28 12 (.tuple #[.int .u64 ((bmul (wu64 (u0.length : Int)) (wu64 u1)).1), .int .u64 ((bmul (wu64 (u0.length : Int)) (wu64 u1)).2)]) ?_; intro a31 hF32; clear hF28
  refine s1 hF32 19 (.int .u64 ((bmul (wu64 (u0.length : Int)) (wu64 u1)).1)) ?_; intro a33 hF34; clear hF32
  refine s1 hF34 20 (.int .u64 ((bmul (wu64 (u0.length : Int)) (wu64 u1)).2)) ?_; intro a35 hF36; clear hF34
  refine s1 hF36 5 (.int .u64 ((bmul (wu64 (u0.length : Int)) (wu64 u1)).1)) ?_; intro a37 hF38; clear hF36
  refine s1 hF38 6 (.int .u64 ((bmul (wu64 (u0.length : Int)) (wu64 u1)).2)) ?_; intro a39 hF40; clear hF38
  refine nlH (hQ16 _ _ ?_); clear hQ16 hQ16Q
  refine wp_seq ?_
  have hF41 : Fr 48 [] [⟨0, [], .slice ao1 u0.length cap2⟩, ⟨5, [], .int .u64 ((bmul (wu64 (u0.length : Int)) (wu64 u1)).1)⟩, ⟨6, [], .int .u64 ((bmul (wu64 (u0.length : Int)) (wu64 u1)).2)⟩] a39 := hF40.region (by kernel_rfl) (by kernel_rfl); clear hF40
  refine sqH ?_; intro hQ42Q hQ42
  refine s1 hF41 21 (.int .u64 ((bmul (wu64 (u0.length : Int)) (wu64 u1)).1)) ?_; intro a43 hF44; clear hF41
  refine s1 hF44 22 (.bool (decide (((bmul (wu64 (u0.length : Int)) (wu64 u1)).1) > 0))) ?_; intro a45 hF46; clear hF44
  refine s1 hF46 23 (.bool (decide (((bmul (wu64 (u0.length : Int)) (wu64 u1)).1) > 0))) ?_; intro a47 hF48; clear hF46
  have hF49 := hF48.atom ((decide (((bmul (wu64 (u0.length : Int)) (wu64 u1)).1) > 0)) == false) (by kernel_rfl); clear hF48
  refine gp hF49 24 0 [] (decide (((bmul (wu64 (u0.length : Int)) (wu64 u1)).1) > 0)) (.int .u64 ((bmul (wu64 (u0.length : Int)) (wu64 u1)).2)) rfl rfl ?_; intro a50 hF51; clear hF49
  refine gp hF51 25 0 [] (decide (((bmul (wu64 (u0.length : Int)) (wu64 u1)).1) > 0)) (.bool (decide (((bmul (wu64 (u0.length : Int)) (wu64 u1)).2) > 9223372036854775807))) rfl rfl ?_; intro a52 hF53; clear hF51
  refine st hF53 (.bool ((decide (((bmul (wu64 (u0.length : Int)) (wu64 u1)).1) > 0)) || (decide (((bmul (wu64 (u0.length : Int)) (wu64 u1)).2) > 9223372036854775807)))) (nog rfl _) rfl (by kernel_rfl) (pk_or hF53 (g := []) (m := 0) (b := decide (((bmul (wu64 (u0.length : Int)) (wu64 u1)).1) > 0)) (v := decide (((bmul (wu64 (u0.length : Int)) (wu64 u1)).2) > 9223372036854775807)) rfl (by kernel_rfl) (by kernel_rfl) (by kernel_rfl) rfl) ?_; intro a54 hF55; clear hF53
  refine nlH (hQ42 _ _ ?_); clear hQ42 hQ42Q
  refine cd hF55 (t := (decide (((bmul (wu64 (u0.length : Int)) (wu64 u1)).1) > 0)) || (decide (((bmul (wu64 (u0.length : Int)) (wu64 u1)).2) > 9223372036854775807))) (by kernel_rfl) (fun hb56 => ?_) (fun hb56 => ?_)
  · -- yes
   have hp57 := hp15.1 hb56; clear hp15
   exact False.elim hp57
  · -- no
   have hp58 := hp15.2 hb56; clear hp15
   refine wp_skip ?_
   refine thn ?_
   have hF59 : Fr 48 [] [⟨0, [], .slice ao1 u0.length cap2⟩, ⟨6, [], .int .u64 ((bmul (wu64 (u0.length : Int)) (wu64 u1)).2)⟩] a54 := hF55.region (by kernel_rfl) (by kernel_rfl); clear hF55
   refine sqH ?_; intro hQ60Q hQ60
   refine s1 hF59 28 (.int .u64 ((bmul (wu64 (u0.length : Int)) (wu64 u1)).2)) ?_; intro a61 hF62; clear hF59
   refine s1 hF62 29 (.int .i64 (w64 ((bmul (wu64 (u0.length : Int)) (wu64 u1)).2))) ?_; intro a63 hF64; clear hF62
   have hc65 := hp58.1; have hp66 := hp58.2; clear hp58
   refine mks hF64 hM30 (T := (tyInt .i64)) (w64 ((bmul (wu64 (u0.length : Int)) (wu64 u1)).2)) (w64 ((bmul (wu64 (u0.length : Int)) (wu64 u1)).2)) (k := .i64) (k' := .i64) (e := 3) (bytes := 8) (zs := [.int .i64 0]) (z := 0) (by simp only [lim]; omega) (nog rfl _) rfl (by kernel_rfl) rfl (by kernel_rfl) (by kernel_rfl) (by kernel_rfl) (by kernel_rfl) rfl ?_; intro g67 a70 wd68 hF71 hM69; clear hF64 hM30
   have hM72 : Mem w.heap.size [] w Z [.own (tyInt .i64) 3 (some ⟨g67, 0, none⟩) ((w64 ((bmul (wu64 (u0.length : Int)) (wu64 u1)).2)).toNat) (List.replicate (w64 ((bmul (wu64 (u0.length : Int)) (wu64 u1)).2)).toNat (0 : Int))] Z wd68 := hM69; clear hM69
   refine s1 hF71 7 (.slice (some ⟨g67, 0, none⟩) (List.replicate (w64 ((bmul (wu64 (u0.length : Int)) (wu64 u1)).2)).toNat (0 : Int)).length ((w64 ((bmul (wu64 (u0.length : Int)) (wu64 u1)).2)).toNat)) ?_; intro a73 hF74; clear hF71
   refine nlH (hQ60 _ _ ?_); clear hQ60 hQ60Q
   refine sqH ?_; intro hQ75Q hQ75
   refine s1 hF74 31 (.slice (some ⟨g67, 0, none⟩) (List.replicate (w64 ((bmul (wu64 (u0.length : Int)) (wu64 u1)).2)).toNat (0 : Int)).length ((w64 ((bmul (wu64 (u0.length : Int)) (wu64 u1)).2)).toNat)) ?_; intro a76 hF77; clear hF74
   refine s1 hF77 32 (.slice ao1 u0.length cap2) ?_; intro a78 hF79; clear hF77
   refine cpy hF79 hM72 0 (T := (tyInt .i64)) (xs := (List.replicate (w64 ((bmul (wu64 (u0.length : Int)) (wu64 u1)).2)).toNat (0 : Int))) (ys := u0) (ao := (some ⟨g67, 0, none⟩)) (cap := ((w64 ((bmul (wu64 (u0.length : Int)) (wu64 u1)).2)).toNat)) (ao1 := (some ⟨g67, 0, none⟩)) (cap1 := ((w64 ((bmul (wu64 (u0.length : Int)) (wu64 u1)).2)).toNat)) (ao2 := ao1) (cap2 := cap2) (sl := u0.length) 0 ((List.replicate (w64 ((bmul (wu64 (u0.length : Int)) (wu64 u1)).2)).toNat (0 : Int)).length) (e := 3) (bytes := 8) (nog rfl _) rfl (by kernel_rfl) rfl (by kernel_rfl) (by kernel_rfl) rfl (by kernel_rfl) rfl (Src.fz (by decide) hM72.fz hs3) (by omega) (own_at0 hM72 0 rfl) ?_; intro a82 wd80 hF83 hM81; clear hF79 hM72
   have hl84 : ((List.replicate (w64 ((bmul (wu64 (u0.length : Int)) (wu64 u1)).2)).toNat (0 : Int)).take 0 ++ u0.take (min u0.length ((List.replicate (w64 ((bmul (wu64 (u0.length : Int)) (wu64 u1)).2)).toNat (0 : Int)).length)) ++ (List.replicate (w64 ((bmul (wu64 (u0.length : Int)) (wu64 u1)).2)).toNat (0 : Int)).drop (0 + min u0.length ((List.replicate (w64 ((bmul (wu64 (u0.length : Int)) (wu64 u1)).2)).toNat (0 : Int)).length))).length = (List.replicate (w64 ((bmul (wu64 (u0.length : Int)) (wu64 u1)).2)).toNat (0 : Int)).length := by simp; try omega
   have hF85 : Fr 48 [] [⟨0, [], .slice ao1 u0.length cap2⟩, ⟨6, [], .int .u64 ((bmul (wu64 (u0.length : Int)) (wu64 u1)).2)⟩, ⟨7, [], .slice (some ⟨g67, 0, none⟩) ((List.replicate (w64 ((bmul (wu64 (u0.length : Int)) (wu64 u1)).2)).toNat (0 : Int)).take 0 ++ u0.take (min u0.length ((List.replicate (w64 ((bmul (wu64 (u0.length : Int)) (wu64 u1)).2)).toNat (0 : Int)).length)) ++ (List.replicate (w64 ((bmul (wu64 (u0.length : Int)) (wu64 u1)).2)).toNat (0 : Int)).drop (0 + min u0.length ((List.replicate (w64 ((bmul (wu64 (u0.length : Int)) (wu64 u1)).2)).toNat (0 : Int)).length))).length ((w64 ((bmul (wu64 (u0.length : Int)) (wu64 u1)).2)).toNat)⟩, ⟨28, [], .int .u64 ((bmul (wu64 (u0.length : Int)) (wu64 u1)).2)⟩, ⟨29, [], .int .i64 (w64 ((bmul (wu64 (u0.length : Int)) (wu64 u1)).2))⟩, ⟨30, [], .slice (some ⟨g67, 0, none⟩) ((List.replicate (w64 ((bmul (wu64 (u0.length : Int)) (wu64 u1)).2)).toNat (0 : Int)).take 0 ++ u0.take (min u0.length ((List.replicate (w64 ((bmul (wu64 (u0.length : Int)) (wu64 u1)).2)).toNat (0 : Int)).length)) ++ (List.replicate (w64 ((bmul (wu64 (u0.length : Int)) (wu64 u1)).2)).toNat (0 : Int)).drop (0 + min u0.length ((List.replicate (w64 ((bmul (wu64 (u0.length : Int)) (wu64 u1)).2)).toNat (0 : Int)).length))).length ((w64 ((bmul (wu64 (u0.length : Int)) (wu64 u1)).2)).toNat)⟩, ⟨31, [], .slice (some ⟨g67, 0, none⟩) ((List.replicate (w64 ((bmul (wu64 (u0.length : Int)) (wu64 u1)).2)).toNat (0 : Int)).take 0 ++ u0.take (min u0.length ((List.replicate (w64 ((bmul (wu64 (u0.length : Int)) (wu64 u1)).2)).toNat (0 : Int)).length)) ++ (List.replicate (w64 ((bmul (wu64 (u0.length : Int)) (wu64 u1)).2)).toNat (0 : Int)).drop (0 + min u0.length ((List.replicate (w64 ((bmul (wu64 (u0.length : Int)) (wu64 u1)).2)).toNat (0 : Int)).length))).length ((w64 ((bmul (wu64 (u0.length : Int)) (wu64 u1)).2)).toNat)⟩, ⟨32, [], .slice ao1 u0.length cap2⟩, ⟨33, [], .int .i64 ((min u0.length ((List.replicate (w64 ((bmul (wu64 (u0.length : Int)) (wu64 u1)).2)).toNat (0 : Int)).length) : Nat) : Int)⟩] a82 := by rw [hl84]; exact hF83.region (by kernel_rfl) (by kernel_rfl)
   clear hF83
   refine s1 hF85 8 (.int .i64 ((min u0.length ((List.replicate (w64 ((bmul (wu64 (u0.length : Int)) (wu64 u1)).2)).toNat (0 : Int)).length) : Nat) : Int)) ?_; intro a86 hF87; clear hF85
   have hM88 : Mem w.heap.size [] w Z [.own (tyInt .i64) 3 (some ⟨g67, 0, none⟩) ((w64 ((bmul (wu64 (u0.length : Int)) (wu64 u1)).2)).toNat) ((List.replicate (w64 ((bmul (wu64 (u0.length : Int)) (wu64 u1)).2)).toNat (0 : Int)).take 0 ++ u0.take (min u0.length ((List.replicate (w64 ((bmul (wu64 (u0.length : Int)) (wu64 u1)).2)).toNat (0 : Int)).length)) ++ (List.replicate (w64 ((bmul (wu64 (u0.length : Int)) (wu64 u1)).2)).toNat (0 : Int)).drop (0 + min u0.length ((List.replicate (w64 ((bmul (wu64 (u0.length : Int)) (wu64 u1)).2)).toNat (0 : Int)).length)))] Z wd80 := hM81; clear hM81
   refine nlH (hQ75 _ _ ?_); clear hQ75 hQ75Q
   refine wp_seq ?_
   refine wp_block ?_
   have hF89 : Fr 48 [] [⟨7, [], .slice (some ⟨g67, 0, none⟩) ((List.replicate (w64 ((bmul (wu64 (u0.length : Int)) (wu64 u1)).2)).toNat (0 : Int)).take 0 ++ u0.take (min u0.length ((List.replicate (w64 ((bmul (wu64 (u0.length : Int)) (wu64 u1)).2)).toNat (0 : Int)).length)) ++ (List.replicate (w64 ((bmul (wu64 (u0.length : Int)) (wu64 u1)).2)).toNat (0 : Int)).drop (0 + min u0.length ((List.replicate (w64 ((bmul (wu64 (u0.length : Int)) (wu64 u1)).2)).toNat (0 : Int)).length))).length ((w64 ((bmul (wu64 (u0.length : Int)) (wu64 u1)).2)).toNat)⟩, ⟨8, [], .int .i64 ((min u0.length ((List.replicate (w64 ((bmul (wu64 (u0.length : Int)) (wu64 u1)).2)).toNat (0 : Int)).length) : Nat) : Int)⟩] a86 := hF87.region (by kernel_rfl) (by kernel_rfl); clear hF87
   have hF91 : Fr 48 [] [⟨7, [], .slice (some ⟨g67, 0, none⟩) ((List.replicate (w64 ((bmul (wu64 (u0.length : Int)) (wu64 u1)).2)).toNat (0 : Int)).take 0 ++ u0.take (min u0.length ((List.replicate (w64 ((bmul (wu64 (u0.length : Int)) (wu64 u1)).2)).toNat (0 : Int)).length)) ++ (List.replicate (w64 ((bmul (wu64 (u0.length : Int)) (wu64 u1)).2)).toNat (0 : Int)).drop (0 + min u0.length ((List.replicate (w64 ((bmul (wu64 (u0.length : Int)) (wu64 u1)).2)).toNat (0 : Int)).length))).length ((w64 ((bmul (wu64 (u0.length : Int)) (wu64 u1)).2)).toNat)⟩, ⟨8, [], .int .i64 ((min u0.length ((List.replicate (w64 ((bmul (wu64 (u0.length : Int)) (wu64 u1)).2)).toNat (0 : Int)).length) : Nat) : Int)⟩] a86 := hF89.region (by kernel_rfl) (by kernel_rfl); clear hF89
   obtain ⟨inv90, mu90, hI94, hr93⟩ := hp66
   refine lp (ι := Int × (List Int)) (fun (s : Int × (List Int)) => [⟨7, [], .slice (some ⟨g67, 0, none⟩) s.2.length ((w64 ((bmul (wu64 (u0.length : Int)) (wu64 u1)).2)).toNat)⟩, ⟨8, [], .int .i64 s.1⟩]) (fun (s : Int × (List Int)) => [.own (tyInt .i64) 3 (some ⟨g67, 0, none⟩) ((w64 ((bmul (wu64 (u0.length : Int)) (wu64 u1)).2)).toNat) s.2]) (fun (s : Int × (List Int)) => Z) (fun (s : Int × (List Int)) => inv90 s.1 s.2) (fun (s : Int × (List Int)) => mu90 s.1 s.2) ⟨((min u0.length ((List.replicate (w64 ((bmul (wu64 (u0.length : Int)) (wu64 u1)).2)).toNat (0 : Int)).length) : Nat) : Int), ((List.replicate (w64 ((bmul (wu64 (u0.length : Int)) (wu64 u1)).2)).toNat (0 : Int)).take 0 ++ u0.take (min u0.length ((List.replicate (w64 ((bmul (wu64 (u0.length : Int)) (wu64 u1)).2)).toNat (0 : Int)).length)) ++ (List.replicate (w64 ((bmul (wu64 (u0.length : Int)) (wu64 u1)).2)).toNat (0 : Int)).drop (0 + min u0.length ((List.replicate (w64 ((bmul (wu64 (u0.length : Int)) (wu64 u1)).2)).toNat (0 : Int)).length)))⟩ hI94 (by exact hF91.region (by kernel_rfl) (by kernel_rfl)) (by exact hM88) ?_
   rintro ⟨x8, zg670⟩ hI92 a96 wd97 hF98 hM99
   have hF100 : Fr 48 [] [⟨7, [], .slice (some ⟨g67, 0, none⟩) zg670.length ((w64 ((bmul (wu64 (u0.length : Int)) (wu64 u1)).2)).toNat)⟩, ⟨8, [], .int .i64 x8⟩] a96 := hF98; clear hF98 hF91
   have hM101 : Mem w.heap.size [] w Z [.own (tyInt .i64) 3 (some ⟨g67, 0, none⟩) ((w64 ((bmul (wu64 (u0.length : Int)) (wu64 u1)).2)).toNat) zg670] Z wd97 := hM99; clear hM99 hM88
   have hp102 := hr93 x8 zg670 hI92
   refine wp_seq ?_
   refine sqH ?_; intro hQ103Q hQ103
   refine s1 hF100 34 (.int .i64 x8) ?_; intro a104 hF105; clear hF100
   refine s1 hF105 35 (.slice (some ⟨g67, 0, none⟩) zg670.length ((w64 ((bmul (wu64 (u0.length : Int)) (wu64 u1)).2)).toNat)) ?_; intro a106 hF107; clear hF105
   refine s1 hF107 36 (.int .i64 (zg670.length : Int)) ?_; intro a108 hF109; clear hF107
   refine s1 hF109 37 (.bool (decide (x8 < (zg670.length : Int)))) ?_; intro a110 hF111; clear hF109
   refine nlH (hQ103 _ _ ?_); clear hQ103 hQ103Q
   refine cd hF111 (t := decide (x8 < (zg670.length : Int))) (by kernel_rfl) (fun hb112 => ?_) (fun hb112 => ?_)
   · -- yes
    have hp113 := hp102.1 hb112; clear hp102
    refine wp_skip ?_
    refine thn ?_
    refine wp_block ?_
    have hF114 : Fr 48 [] [⟨7, [], .slice (some ⟨g67, 0, none⟩) zg670.length ((w64 ((bmul (wu64 (u0.length : Int)) (wu64 u1)).2)).toNat)⟩, ⟨8, [], .int .i64 x8⟩] a110 := hF111.region (by kernel_rfl) (by kernel_rfl); clear hF111
    have hcd3_0 := hp113.1; have hp145 := hp113.2; clear hp113
    have hcd6_0 := hp145.1; have hp146 := hp145.2; clear hp145
    refine any_invE mixed [[], [], [], [1, 2], [], [], [4, 5], [3, 6], [0, 7], [0, 1, 2, 3, 4, 5, 6, 7, 8]] 10 (fun S a w1 => ∃ (ao121 : Option Addr) (cap122 : Nat) (ao130 : Option Addr) (cap131 : Nat) (ud8 : Value) (ud38 : Value) (ud39 : Value) (ud40 : Value) (ud41 : Value) (ud42 : Value) (ud43 : Value) (ud44 : Value) (ud45 : Value) (ud46 : Value) (rh0 : Res), Fz.le Z Z ∧ Fr 48 [] [⟨7, [], .slice (some ⟨g67, 0, none⟩) zg670.length ((w64 ((bmul (wu64 (u0.length : Int)) (wu64 u1)).2)).toNat)⟩, ⟨8, [], ud8⟩, ⟨38, [], ud38⟩, ⟨39, [], ud39⟩, ⟨40, [], ud40⟩, ⟨41, [], ud41⟩, ⟨42, [], ud42⟩, ⟨43, [], ud43⟩, ⟨44, [], ud44⟩, ⟨45, [], ud45⟩, ⟨46, [], ud46⟩] a ∧ Mem w.heap.size [] w Z [rh0] Z w1 ∧ (S 9 = true → ud8 = .int .i64 (w64 (x8 + ((min ((zg670.take x8.toNat).drop 0).length (zg670.length - x8.toNat) : Nat) : Int)))) ∧ (S 9 = false → ud8 = .int .i64 x8) ∧ (S 0 = true → ud38 = .int .i64 x8) ∧ (S 1 = true → ud39 = .slice (some ⟨g67, 0, none⟩) zg670.length ((w64 ((bmul (wu64 (u0.length : Int)) (wu64 u1)).2)).toNat)) ∧ (S 2 = true → ud40 = .int .i64 x8) ∧ (S 3 = true → ud41 = .slice ao121 (zg670.length - x8.toNat) cap122) ∧ (S 4 = true → ud42 = .slice (some ⟨g67, 0, none⟩) zg670.length ((w64 ((bmul (wu64 (u0.length : Int)) (wu64 u1)).2)).toNat)) ∧ (S 5 = true → ud43 = .int .i64 x8) ∧ (S 6 = true → ud44 = .slice ao130 (x8.toNat - 0) cap131) ∧ (S 7 = true → ud45 = .int .i64 ((min ((zg670.take x8.toNat).drop 0).length (zg670.length - x8.toNat) : Nat) : Int)) ∧ (S 8 = true → ud46 = .int .i64 (w64 (x8 + ((min ((zg670.take x8.toNat).drop 0).length (zg670.length - x8.toNat) : Nat) : Int)))) ∧ (S 7 = false → rh0 = .own (tyInt .i64) 3 (some ⟨g67, 0, none⟩) ((w64 ((bmul (wu64 (u0.length : Int)) (wu64 u1)).2)).toNat) zg670) ∧ (S 7 = true → rh0 = .own (tyInt .i64) 3 (some ⟨g67, 0, none⟩) ((w64 ((bmul (wu64 (u0.length : Int)) (wu64 u1)).2)).toNat) (zg670.take x8.toNat ++ ((zg670.take x8.toNat).drop 0).take (min ((zg670.take x8.toNat).drop 0).length (zg670.length - x8.toNat)) ++ zg670.drop (x8.toNat + min ((zg670.take x8.toNat).drop 0).length (zg670.length - x8.toNat)))) ∧ (S 3 = true → OsR (tyInt .i64) (some ⟨g67, 0, none⟩) x8.toNat zg670.length ao121 cap122) ∧ (S 6 = true → OsR (tyInt .i64) (some ⟨g67, 0, none⟩) 0 x8.toNat ao130 cap131)) ?h0 ?hs ?hE
    case h0 =>
     have hF148 := hF114.any 38
     have hF149 := hF148.any 39
     have hF150 := hF149.any 40
     have hF151 := hF150.any 41
     have hF152 := hF151.any 42
     have hF153 := hF152.any 43
     have hF154 := hF153.any 44
     have hF155 := hF154.any 45
     have hF156 := hF155.any 46
     have hM157 := (hM101.perm (List.Perm.refl _)).drew
     exact ⟨none, 0, none, 0, .int .i64 x8, a110.tmps.getD 38 undef, a110.tmps.getD 39 undef, a110.tmps.getD 40 undef, a110.tmps.getD 41 undef, a110.tmps.getD 42 undef, a110.tmps.getD 43 undef, a110.tmps.getD 44 undef, a110.tmps.getD 45 undef, a110.tmps.getD 46 undef, .own (tyInt .i64) 3 (some ⟨g67, 0, none⟩) ((w64 ((bmul (wu64 (u0.length : Int)) (wu64 u1)).2)).toNat) zg670, Fz.le.refl _, hF156.region (by kernel_rfl) (by kernel_rfl), hM157, ff, kf, ff, ff, ff, ff, ff, ff, ff, ff, ff, kf, ff, ff, ff⟩
    case hs =>
     intro S hcl i o hil hi hSi hpre a w1 hI; refine hid ?_; intro G hG; obtain ⟨ao121, hI⟩ := hI; obtain ⟨cap122, hI⟩ := hI; obtain ⟨ao130, hI⟩ := hI; obtain ⟨cap131, hI⟩ := hI; obtain ⟨ud8, hI⟩ := hI; obtain ⟨ud38, hI⟩ := hI; obtain ⟨ud39, hI⟩ := hI; obtain ⟨ud40, hI⟩ := hI; obtain ⟨ud41, hI⟩ := hI; obtain ⟨ud42, hI⟩ := hI; obtain ⟨ud43, hI⟩ := hI; obtain ⟨ud44, hI⟩ := hI; obtain ⟨ud45, hI⟩ := hI; obtain ⟨ud46, hI⟩ := hI; obtain ⟨rh0, hI⟩ := hI; obtain ⟨hle147, hI⟩ := hI; obtain ⟨hFx, hI⟩ := hI; obtain ⟨hMx, hI⟩ := hI; obtain ⟨cu8, hI⟩ := hI; obtain ⟨cz8, hI⟩ := hI; obtain ⟨cu38, hI⟩ := hI; obtain ⟨cu39, hI⟩ := hI; obtain ⟨cu40, hI⟩ := hI; obtain ⟨cu41, hI⟩ := hI; obtain ⟨cu42, hI⟩ := hI; obtain ⟨cu43, hI⟩ := hI; obtain ⟨cu44, hI⟩ := hI; obtain ⟨cu45, hI⟩ := hI; obtain ⟨cu46, hI⟩ := hI; obtain ⟨cr0_0, hI⟩ := hI; obtain ⟨cr0_1, hI⟩ := hI; obtain ⟨cf0, hI⟩ := hI; have cf1 := hI; clear hI
     have hcase : i = 0 ∨ i = 1 ∨ i = 2 ∨ i = 3 ∨ i = 4 ∨ i = 5 ∨ i = 6 ∨ i = 7 ∨ i = 8 ∨ i = 9 := by clear hi; omega
     rcases hcase with rfl | rfl | rfl | rfl | rfl | rfl | rfl | rfl | rfl | rfl
     · -- 0: move
      obtain rfl := Option.some.inj hi
      have hx0 := hSi
      have hx8 := negF hcl 8 0 (by kernel_rfl) hx0
      have hx9 := negF hcl 9 0 (by kernel_rfl) hx0
      obtain rfl := cz8 hx9
      refine hG (any_step ?_); clear hG G; intro A J hJ
      have hle0 := Fz.le.trans hle0 hle147
      have hs158 := hs3.mono hle147
      refine s1 hFx 38 (.int .i64 x8) ?_; intro a159 hF160; clear hFx
      refine nl (qnI (hJ _ _ ?_)); clear hJ J
      exact ⟨ao121, cap122, ao130, cap131, .int .i64 x8, .int .i64 x8, ud39, ud40, ud41, ud42, ud43, ud44, ud45, ud46, rh0, hle147, hF160.region (by kernel_rfl) (by kernel_rfl), hMx.perm (List.Perm.refl _), (nt hx9), kf, kf, cu39, cu40, cu41, cu42, cu43, cu44, cu45, (nt hx8), cr0_0, cr0_1, cf0, cf1⟩
     · -- 1: move
      obtain rfl := Option.some.inj hi
      have hx1 := hSi
      have hx3 := negF hcl 3 1 (by kernel_rfl) hx1
      have hx7 := negF hcl 7 3 (by kernel_rfl) hx3
      have hx8 := negF hcl 8 7 (by kernel_rfl) hx7
      have hx9 := negF hcl 9 1 (by kernel_rfl) hx1
      obtain rfl := cz8 hx9
      obtain rfl := cr0_0 hx7
      refine hG (any_step ?_); clear hG G; intro A J hJ
      have hle0 := Fz.le.trans hle0 hle147
      have hs162 := hs3.mono hle147
      refine s1 hFx 39 (.slice (some ⟨g67, 0, none⟩) zg670.length ((w64 ((bmul (wu64 (u0.length : Int)) (wu64 u1)).2)).toNat)) ?_; intro a163 hF164; clear hFx
      refine nl (qnI (hJ _ _ ?_)); clear hJ J
      exact ⟨ao121, cap122, ao130, cap131, .int .i64 x8, ud38, .slice (some ⟨g67, 0, none⟩) zg670.length ((w64 ((bmul (wu64 (u0.length : Int)) (wu64 u1)).2)).toNat), ud40, ud41, ud42, ud43, ud44, ud45, ud46, .own (tyInt .i64) 3 (some ⟨g67, 0, none⟩) ((w64 ((bmul (wu64 (u0.length : Int)) (wu64 u1)).2)).toNat) zg670, hle147, hF164.region (by kernel_rfl) (by kernel_rfl), hMx.perm (List.Perm.refl _), (nt hx9), kf, cu38, kf, cu40, (nt hx3), cu42, cu43, cu44, (nt hx7), (nt hx8), kf, (nt hx7), (nt hx3), cf1⟩
     · -- 2: move
      obtain rfl := Option.some.inj hi
      have hx2 := hSi
      have hx3 := negF hcl 3 2 (by kernel_rfl) hx2
      have hx7 := negF hcl 7 3 (by kernel_rfl) hx3
      have hx8 := negF hcl 8 7 (by kernel_rfl) hx7
      have hx9 := negF hcl 9 2 (by kernel_rfl) hx2
      obtain rfl := cz8 hx9
      obtain rfl := cr0_0 hx7
      refine hG (any_step ?_); clear hG G; intro A J hJ
      have hle0 := Fz.le.trans hle0 hle147
      have hs166 := hs3.mono hle147
      refine s1 hFx 40 (.int .i64 x8) ?_; intro a167 hF168; clear hFx
      refine nl (qnI (hJ _ _ ?_)); clear hJ J
      exact ⟨ao121, cap122, ao130, cap131, .int .i64 x8, ud38, ud39, .int .i64 x8, ud41, ud42, ud43, ud44, ud45, ud46, .own (tyInt .i64) 3 (some ⟨g67, 0, none⟩) ((w64 ((bmul (wu64 (u0.length : Int)) (wu64 u1)).2)).toNat) zg670, hle147, hF168.region (by kernel_rfl) (by kernel_rfl), hMx.perm (List.Perm.refl _), (nt hx9), kf, cu38, cu39, kf, (nt hx3), cu42, cu43, cu44, (nt hx7), (nt hx8), kf, (nt hx7), (nt hx3), cf1⟩
     · -- 3: slice
      obtain rfl := Option.some.inj hi
      have hx2 := hpre 2 (by kernel_rfl)
      have hx1 := hpre 1 (by kernel_rfl)
      have hx3 := hSi
      have hx7 := negF hcl 7 3 (by kernel_rfl) hx3
      have hx8 := negF hcl 8 7 (by kernel_rfl) hx7
      have hx9 := negF hcl 9 3 (by kernel_rfl) hx3
      obtain rfl := cz8 hx9
      obtain rfl := cu39 hx1
      obtain rfl := cu40 hx2
      obtain rfl := cr0_0 hx7
      refine hG (any_step ?_); clear hG G; intro A J hJ
      have hle0 := Fz.le.trans hle0 hle147
      have hs170 := hs3.mono hle147
      refine slo hFx hMx 0 (T := (tyInt .i64)) (xs := zg670) (ao := (some ⟨g67, 0, none⟩)) (cap := ((w64 ((bmul (wu64 (u0.length : Int)) (wu64 u1)).2)).toNat)) x8.toNat zg670.length (by omega) (e := 3) (bytes := 8) (nog rfl _) rfl (by kernel_rfl) rfl (by kernel_rfl) rfl (by kernel_rfl) (.inr ⟨.i64, _, rfl, by rw [Int.toNat_of_nonneg (by omega)]; kernel_rfl⟩) (.inl ⟨rfl, rfl⟩) ?_; intro ao171 cap172 a174 hO173 hF175; clear hFx
      refine nl (qnI (hJ _ _ ?_)); clear hJ J
      exact ⟨ao171, cap172, ao130, cap131, .int .i64 x8, ud38, .slice (some ⟨g67, 0, none⟩) zg670.length ((w64 ((bmul (wu64 (u0.length : Int)) (wu64 u1)).2)).toNat), .int .i64 x8, .slice ao171 (zg670.length - x8.toNat) cap172, ud42, ud43, ud44, ud45, ud46, .own (tyInt .i64) 3 (some ⟨g67, 0, none⟩) ((w64 ((bmul (wu64 (u0.length : Int)) (wu64 u1)).2)).toNat) zg670, hle147, hF175.region (by kernel_rfl) (by kernel_rfl), hMx.perm (List.Perm.refl _), (nt hx9), kf, cu38, kf, kf, kf, cu42, cu43, cu44, (nt hx7), (nt hx8), kf, (nt hx7), (fun _ => hO173), cf1⟩
     · -- 4: move
      obtain rfl := Option.some.inj hi
      have hx4 := hSi
      have hx6 := negF hcl 6 4 (by kernel_rfl) hx4
      have hx7 := negF hcl 7 6 (by kernel_rfl) hx6
      have hx8 := negF hcl 8 7 (by kernel_rfl) hx7
      have hx9 := negF hcl 9 4 (by kernel_rfl) hx4
      obtain rfl := cz8 hx9
      obtain rfl := cr0_0 hx7
      refine hG (any_step ?_); clear hG G; intro A J hJ
      have hle0 := Fz.le.trans hle0 hle147
      have hs177 := hs3.mono hle147
      refine s1 hFx 42 (.slice (some ⟨g67, 0, none⟩) zg670.length ((w64 ((bmul (wu64 (u0.length : Int)) (wu64 u1)).2)).toNat)) ?_; intro a178 hF179; clear hFx
      refine nl (qnI (hJ _ _ ?_)); clear hJ J
      exact ⟨ao121, cap122, ao130, cap131, .int .i64 x8, ud38, ud39, ud40, ud41, .slice (some ⟨g67, 0, none⟩) zg670.length ((w64 ((bmul (wu64 (u0.length : Int)) (wu64 u1)).2)).toNat), ud43, ud44, ud45, ud46, .own (tyInt .i64) 3 (some ⟨g67, 0, none⟩) ((w64 ((bmul (wu64 (u0.length : Int)) (wu64 u1)).2)).toNat) zg670, hle147, hF179.region (by kernel_rfl) (by kernel_rfl), hMx.perm (List.Perm.refl _), (nt hx9), kf, cu38, cu39, cu40, cu41, kf, cu43, (nt hx6), (nt hx7), (nt hx8), kf, (nt hx7), cf0, (nt hx6)⟩
     · -- 5: move
      obtain rfl := Option.some.inj hi
      have hx5 := hSi
      have hx6 := negF hcl 6 5 (by kernel_rfl) hx5
      have hx7 := negF hcl 7 6 (by kernel_rfl) hx6
      have hx8 := negF hcl 8 7 (by kernel_rfl) hx7
      have hx9 := negF hcl 9 5 (by kernel_rfl) hx5
      obtain rfl := cz8 hx9
      obtain rfl := cr0_0 hx7
      refine hG (any_step ?_); clear hG G; intro A J hJ
      have hle0 := Fz.le.trans hle0 hle147
      have hs181 := hs3.mono hle147
      refine s1 hFx 43 (.int .i64 x8) ?_; intro a182 hF183; clear hFx
      refine nl (qnI (hJ _ _ ?_)); clear hJ J
      exact ⟨ao121, cap122, ao130, cap131, .int .i64 x8, ud38, ud39, ud40, ud41, ud42, .int .i64 x8, ud44, ud45, ud46, .own (tyInt .i64) 3 (some ⟨g67, 0, none⟩) ((w64 ((bmul (wu64 (u0.length : Int)) (wu64 u1)).2)).toNat) zg670, hle147, hF183.region (by kernel_rfl) (by kernel_rfl), hMx.perm (List.Perm.refl _), (nt hx9), kf, cu38, cu39, cu40, cu41, cu42, kf, (nt hx6), (nt hx7), (nt hx8), kf, (nt hx7), cf0, (nt hx6)⟩
     · -- 6: slice
      obtain rfl := Option.some.inj hi
      have hx5 := hpre 5 (by kernel_rfl)
      have hx4 := hpre 4 (by kernel_rfl)
      have hx6 := hSi
      have hx7 := negF hcl 7 6 (by kernel_rfl) hx6
      have hx8 := negF hcl 8 7 (by kernel_rfl) hx7
      have hx9 := negF hcl 9 6 (by kernel_rfl) hx6
      obtain rfl := cz8 hx9
      obtain rfl := cu42 hx4
      obtain rfl := cu43 hx5
      obtain rfl := cr0_0 hx7
      refine hG (any_step ?_); clear hG G; intro A J hJ
      have hle0 := Fz.le.trans hle0 hle147
      have hs185 := hs3.mono hle147
      refine slo hFx hMx 0 (T := (tyInt .i64)) (xs := zg670) (ao := (some ⟨g67, 0, none⟩)) (cap := ((w64 ((bmul (wu64 (u0.length : Int)) (wu64 u1)).2)).toNat)) 0 x8.toNat (by omega) (e := 3) (bytes := 8) (nog rfl _) rfl (by kernel_rfl) rfl (by kernel_rfl) rfl (by kernel_rfl) (.inl ⟨rfl, rfl⟩) (.inr ⟨.i64, _, rfl, by rw [Int.toNat_of_nonneg (by omega)]; kernel_rfl⟩) ?_; intro ao186 cap187 a189 hO188 hF190; clear hFx
      refine nl (qnI (hJ _ _ ?_)); clear hJ J
      exact ⟨ao121, cap122, ao186, cap187, .int .i64 x8, ud38, ud39, ud40, ud41, .slice (some ⟨g67, 0, none⟩) zg670.length ((w64 ((bmul (wu64 (u0.length : Int)) (wu64 u1)).2)).toNat), .int .i64 x8, .slice ao186 (x8.toNat - 0) cap187, ud45, ud46, .own (tyInt .i64) 3 (some ⟨g67, 0, none⟩) ((w64 ((bmul (wu64 (u0.length : Int)) (wu64 u1)).2)).toNat) zg670, hle147, hF190.region (by kernel_rfl) (by kernel_rfl), hMx.perm (List.Perm.refl _), (nt hx9), kf, cu38, cu39, cu40, cu41, kf, kf, kf, (nt hx7), (nt hx8), kf, (nt hx7), cf0, (fun _ => hO188)⟩
     · -- 7: call
      obtain rfl := Option.some.inj hi
      have hx6 := hpre 6 (by kernel_rfl)
      have hx3 := hpre 3 (by kernel_rfl)
      have hx5 := hcl 6 5 (by kernel_rfl) hx6
      have hx4 := hcl 6 4 (by kernel_rfl) hx6
      have hx2 := hcl 3 2 (by kernel_rfl) hx3
      have hx1 := hcl 3 1 (by kernel_rfl) hx3
      have hx7 := hSi
      have hx8 := negF hcl 8 7 (by kernel_rfl) hx7
      have hx9 := negF hcl 9 7 (by kernel_rfl) hx7
      obtain rfl := cz8 hx9
      obtain rfl := cu39 hx1
      obtain rfl := cu40 hx2
      obtain rfl := cu41 hx3
      obtain rfl := cu42 hx4
      obtain rfl := cu43 hx5
      obtain rfl := cu44 hx6
      obtain rfl := cr0_0 hx7
      refine hG (any_step ?_); clear hG G; intro A J hJ
      have hle0 := Fz.le.trans hle0 hle147
      have hs192 := hs3.mono hle147
      have hs193 := cf0 hx3
      have hs194 := cf1 hx6
      refine cpy hFx hMx 0 (T := (tyInt .i64)) (xs := zg670) (ys := ((zg670.take x8.toNat).drop 0)) (ao := (some ⟨g67, 0, none⟩)) (cap := ((w64 ((bmul (wu64 (u0.length : Int)) (wu64 u1)).2)).toNat)) (ao1 := ao121) (cap1 := cap122) (ao2 := ao130) (cap2 := cap131) (sl := (x8.toNat - 0)) x8.toNat (zg670.length - x8.toNat) (e := 3) (bytes := 8) (nog rfl _) rfl (by kernel_rfl) rfl (by kernel_rfl) (by kernel_rfl) (by simp; omega) (by kernel_rfl) rfl (Src.os hMx 0 rfl hs194 (by omega)) (by omega) (fun h => hs193.at_ (by omega)) ?_; intro a197 wd195 hF198 hM196; clear hFx hMx
      have hl199 : (zg670.take x8.toNat ++ ((zg670.take x8.toNat).drop 0).take (min ((zg670.take x8.toNat).drop 0).length (zg670.length - x8.toNat)) ++ zg670.drop (x8.toNat + min ((zg670.take x8.toNat).drop 0).length (zg670.length - x8.toNat))).length = zg670.length := by simp; try omega
      have hF200 : Fr 48 [] [⟨7, [], .slice (some ⟨g67, 0, none⟩) (zg670.take x8.toNat ++ ((zg670.take x8.toNat).drop 0).take (min ((zg670.take x8.toNat).drop 0).length (zg670.length - x8.toNat)) ++ zg670.drop (x8.toNat + min ((zg670.take x8.toNat).drop 0).length (zg670.length - x8.toNat))).length ((w64 ((bmul (wu64 (u0.length : Int)) (wu64 u1)).2)).toNat)⟩, ⟨8, [], .int .i64 x8⟩, ⟨38, [], ud38⟩, ⟨39, [], .slice (some ⟨g67, 0, none⟩) (zg670.take x8.toNat ++ ((zg670.take x8.toNat).drop 0).take (min ((zg670.take x8.toNat).drop 0).length (zg670.length - x8.toNat)) ++ zg670.drop (x8.toNat + min ((zg670.take x8.toNat).drop 0).length (zg670.length - x8.toNat))).length ((w64 ((bmul (wu64 (u0.length : Int)) (wu64 u1)).2)).toNat)⟩, ⟨40, [], .int .i64 x8⟩, ⟨41, [], .slice ao121 (zg670.length - x8.toNat) cap122⟩, ⟨42, [], .slice (some ⟨g67, 0, none⟩) (zg670.take x8.toNat ++ ((zg670.take x8.toNat).drop 0).take (min ((zg670.take x8.toNat).drop 0).length (zg670.length - x8.toNat)) ++ zg670.drop (x8.toNat + min ((zg670.take x8.toNat).drop 0).length (zg670.length - x8.toNat))).length ((w64 ((bmul (wu64 (u0.length : Int)) (wu64 u1)).2)).toNat)⟩, ⟨43, [], .int .i64 x8⟩, ⟨44, [], .slice ao130 (x8.toNat - 0) cap131⟩, ⟨45, [], .int .i64 ((min ((zg670.take x8.toNat).drop 0).length (zg670.length - x8.toNat) : Nat) : Int)⟩, ⟨46, [], ud46⟩] a197 := by rw [hl199]; exact hF198.region (by kernel_rfl) (by kernel_rfl)
      clear hF198
      refine nl (qnI (hJ _ _ ?_)); clear hJ J
      rw [hl199] at hF200
      exact ⟨ao121, cap122, ao130, cap131, .int .i64 x8, ud38, .slice (some ⟨g67, 0, none⟩) zg670.length ((w64 ((bmul (wu64 (u0.length : Int)) (wu64 u1)).2)).toNat), .int .i64 x8, .slice ao121 (zg670.length - x8.toNat) cap122, .slice (some ⟨g67, 0, none⟩) zg670.length ((w64 ((bmul (wu64 (u0.length : Int)) (wu64 u1)).2)).toNat), .int .i64 x8, .slice ao130 (x8.toNat - 0) cap131, .int .i64 ((min ((zg670.take x8.toNat).drop 0).length (zg670.length - x8.toNat) : Nat) : Int), ud46, .own (tyInt .i64) 3 (some ⟨g67, 0, none⟩) ((w64 ((bmul (wu64 (u0.length : Int)) (wu64 u1)).2)).toNat) (zg670.take x8.toNat ++ ((zg670.take x8.toNat).drop 0).take (min ((zg670.take x8.toNat).drop 0).length (zg670.length - x8.toNat)) ++ zg670.drop (x8.toNat + min ((zg670.take x8.toNat).drop 0).length (zg670.length - x8.toNat))), hle147, hF200.region (by kernel_rfl) (by kernel_rfl), hM196.perm (List.Perm.refl _), (nt hx9), (fun _ => by first | rfl | rw [hl199]), cu38, (fun _ => by first | rfl | rw [hl199]), (fun _ => by first | rfl | rw [hl199]), (fun _ => by first | rfl | rw [hl199]), (fun _ => by first | rfl | rw [hl199]), (fun _ => by first | rfl | rw [hl199]), (fun _ => by first | rfl | rw [hl199]), (fun _ => by first | rfl | rw [hl199]), (nt hx8), nu, kf, (fun _ => hs193), (fun _ => hs194)⟩
     · -- 8: binOp
      obtain rfl := Option.some.inj hi
      have hx7 := hpre 7 (by kernel_rfl)
      have hx0 := hpre 0 (by kernel_rfl)
      have hx6 := hcl 7 6 (by kernel_rfl) hx7
      have hx3 := hcl 7 3 (by kernel_rfl) hx7
      have hx5 := hcl 6 5 (by kernel_rfl) hx6
      have hx4 := hcl 6 4 (by kernel_rfl) hx6
      have hx2 := hcl 3 2 (by kernel_rfl) hx3
      have hx1 := hcl 3 1 (by kernel_rfl) hx3
      have hx8 := hSi
      have hx9 := negF hcl 9 8 (by kernel_rfl) hx8
      obtain rfl := cz8 hx9
      obtain rfl := cu38 hx0
      obtain rfl := cu39 hx1
      obtain rfl := cu40 hx2
      obtain rfl := cu41 hx3
      obtain rfl := cu42 hx4
      obtain rfl := cu43 hx5
      obtain rfl := cu44 hx6
      obtain rfl := cu45 hx7
      obtain rfl := cr0_1 hx7
      refine hG (any_step ?_); clear hG G; intro A J hJ
      have hle0 := Fz.le.trans hle0 hle147
      have hs202 := hs3.mono hle147
      have hs203 := cf0 hx3
      have hs204 := cf1 hx6
      have hl205 : (zg670.take x8.toNat ++ ((zg670.take x8.toNat).drop 0).take (min ((zg670.take x8.toNat).drop 0).length (zg670.length - x8.toNat)) ++ zg670.drop (x8.toNat + min ((zg670.take x8.toNat).drop 0).length (zg670.length - x8.toNat))).length = zg670.length := by simp; try omega
      have hF206 : Fr 48 [] [⟨7, [], .slice (some ⟨g67, 0, none⟩) (zg670.take x8.toNat ++ ((zg670.take x8.toNat).drop 0).take (min ((zg670.take x8.toNat).drop 0).length (zg670.length - x8.toNat)) ++ zg670.drop (x8.toNat + min ((zg670.take x8.toNat).drop 0).length (zg670.length - x8.toNat))).length ((w64 ((bmul (wu64 (u0.length : Int)) (wu64 u1)).2)).toNat)⟩, ⟨8, [], .int .i64 x8⟩, ⟨38, [], .int .i64 x8⟩, ⟨39, [], .slice (some ⟨g67, 0, none⟩) (zg670.take x8.toNat ++ ((zg670.take x8.toNat).drop 0).take (min ((zg670.take x8.toNat).drop 0).length (zg670.length - x8.toNat)) ++ zg670.drop (x8.toNat + min ((zg670.take x8.toNat).drop 0).length (zg670.length - x8.toNat))).length ((w64 ((bmul (wu64 (u0.length : Int)) (wu64 u1)).2)).toNat)⟩, ⟨40, [], .int .i64 x8⟩, ⟨41, [], .slice ao121 (zg670.length - x8.toNat) cap122⟩, ⟨42, [], .slice (some ⟨g67, 0, none⟩) (zg670.take x8.toNat ++ ((zg670.take x8.toNat).drop 0).take (min ((zg670.take x8.toNat).drop 0).length (zg670.length - x8.toNat)) ++ zg670.drop (x8.toNat + min ((zg670.take x8.toNat).drop 0).length (zg670.length - x8.toNat))).length ((w64 ((bmul (wu64 (u0.length : Int)) (wu64 u1)).2)).toNat)⟩, ⟨43, [], .int .i64 x8⟩, ⟨44, [], .slice ao130 (x8.toNat - 0) cap131⟩, ⟨45, [], .int .i64 ((min ((zg670.take x8.toNat).drop 0).length (zg670.length - x8.toNat) : Nat) : Int)⟩, ⟨46, [], ud46⟩] a := by rw [hl205]; exact hFx.region (by kernel_rfl) (by kernel_rfl)
      clear hFx
      refine s1 hF206 46 (.int .i64 (w64 (x8 + ((min ((zg670.take x8.toNat).drop 0).length (zg670.length - x8.toNat) : Nat) : Int)))) ?_; intro a207 hF208; clear hF206
      refine nl (qnI (hJ _ _ ?_)); clear hJ J
      rw [hl205] at hF208
      exact ⟨ao121, cap122, ao130, cap131, .int .i64 x8, .int .i64 x8, .slice (some ⟨g67, 0, none⟩) zg670.length ((w64 ((bmul (wu64 (u0.length : Int)) (wu64 u1)).2)).toNat), .int .i64 x8, .slice ao121 (zg670.length - x8.toNat) cap122, .slice (some ⟨g67, 0, none⟩) zg670.length ((w64 ((bmul (wu64 (u0.length : Int)) (wu64 u1)).2)).toNat), .int .i64 x8, .slice ao130 (x8.toNat - 0) cap131, .int .i64 ((min ((zg670.take x8.toNat).drop 0).length (zg670.length - x8.toNat) : Nat) : Int), .int .i64 (w64 (x8 + ((min ((zg670.take x8.toNat).drop 0).length (zg670.length - x8.toNat) : Nat) : Int))), .own (tyInt .i64) 3 (some ⟨g67, 0, none⟩) ((w64 ((bmul (wu64 (u0.length : Int)) (wu64 u1)).2)).toNat) (zg670.take x8.toNat ++ ((zg670.take x8.toNat).drop 0).take (min ((zg670.take x8.toNat).drop 0).length (zg670.length - x8.toNat)) ++ zg670.drop (x8.toNat + min ((zg670.take x8.toNat).drop 0).length (zg670.length - x8.toNat))), hle147, hF208.region (by kernel_rfl) (by kernel_rfl), hMx.perm (List.Perm.refl _), (nt hx9), (fun _ => by first | rfl | rw [hl205]), (fun _ => by first | rfl | rw [hl205]), (fun _ => by first | rfl | rw [hl205]), (fun _ => by first | rfl | rw [hl205]), (fun _ => by first | rfl | rw [hl205]), (fun _ => by first | rfl | rw [hl205]), (fun _ => by first | rfl | rw [hl205]), (fun _ => by first | rfl | rw [hl205]), (fun _ => by first | rfl | rw [hl205]), (fun _ => by first | rfl | rw [hl205]), (tn hx7), kf, (fun _ => hs203), (fun _ => hs204)⟩
     · -- 9: assign
      obtain rfl := Option.some.inj hi
      have hx8 := hpre 8 (by kernel_rfl)
      have hx7 := hpre 7 (by kernel_rfl)
      have hx6 := hpre 6 (by kernel_rfl)
      have hx5 := hpre 5 (by kernel_rfl)
      have hx4 := hpre 4 (by kernel_rfl)
      have hx3 := hpre 3 (by kernel_rfl)
      have hx2 := hpre 2 (by kernel_rfl)
      have hx1 := hpre 1 (by kernel_rfl)
      have hx0 := hpre 0 (by kernel_rfl)
      have hx9 := hSi
      obtain rfl := cz8 hx9
      obtain rfl := cu38 hx0
      obtain rfl := cu39 hx1
      obtain rfl := cu40 hx2
      obtain rfl := cu41 hx3
      obtain rfl := cu42 hx4
      obtain rfl := cu43 hx5
      obtain rfl := cu44 hx6
      obtain rfl := cu45 hx7
      obtain rfl := cu46 hx8
      obtain rfl := cr0_1 hx7
      refine hG (any_step ?_); clear hG G; intro A J hJ
      have hle0 := Fz.le.trans hle0 hle147
      have hs210 := hs3.mono hle147
      have hs211 := cf0 hx3
      have hs212 := cf1 hx6
      have hl213 : (zg670.take x8.toNat ++ ((zg670.take x8.toNat).drop 0).take (min ((zg670.take x8.toNat).drop 0).length (zg670.length - x8.toNat)) ++ zg670.drop (x8.toNat + min ((zg670.take x8.toNat).drop 0).length (zg670.length - x8.toNat))).length = zg670.length := by simp; try omega
      have hF214 : Fr 48 [] [⟨7, [], .slice (some ⟨g67, 0, none⟩) (zg670.take x8.toNat ++ ((zg670.take x8.toNat).drop 0).take (min ((zg670.take x8.toNat).drop 0).length (zg670.length - x8.toNat)) ++ zg670.drop (x8.toNat + min ((zg670.take x8.toNat).drop 0).length (zg670.length - x8.toNat))).length ((w64 ((bmul (wu64 (u0.length : Int)) (wu64 u1)).2)).toNat)⟩, ⟨8, [], .int .i64 x8⟩, ⟨38, [], .int .i64 x8⟩, ⟨39, [], .slice (some ⟨g67, 0, none⟩) (zg670.take x8.toNat ++ ((zg670.take x8.toNat).drop 0).take (min ((zg670.take x8.toNat).drop 0).length (zg670.length - x8.toNat)) ++ zg670.drop (x8.toNat + min ((zg670.take x8.toNat).drop 0).length (zg670.length - x8.toNat))).length ((w64 ((bmul (wu64 (u0.length : Int)) (wu64 u1)).2)).toNat)⟩, ⟨40, [], .int .i64 x8⟩, ⟨41, [], .slice ao121 (zg670.length - x8.toNat) cap122⟩, ⟨42, [], .slice (some ⟨g67, 0, none⟩) (zg670.take x8.toNat ++ ((zg670.take x8.toNat).drop 0).take (min ((zg670.take x8.toNat).drop 0).length (zg670.length - x8.toNat)) ++ zg670.drop (x8.toNat + min ((zg670.take x8.toNat).drop 0).length (zg670.length - x8.toNat))).length ((w64 ((bmul (wu64 (u0.length : Int)) (wu64 u1)).2)).toNat)⟩, ⟨43, [], .int .i64 x8⟩, ⟨44, [], .slice ao130 (x8.toNat - 0) cap131⟩, ⟨45, [], .int .i64 ((min ((zg670.take x8.toNat).drop 0).length (zg670.length - x8.toNat) : Nat) : Int)⟩, ⟨46, [], .int .i64 (w64 (x8 + ((min ((zg670.take x8.toNat).drop 0).length (zg670.length - x8.toNat) : Nat) : Int)))⟩] a := by rw [hl213]; exact hFx.region (by kernel_rfl) (by kernel_rfl)
      clear hFx
      refine s1 hF214 8 (.int .i64 (w64 (x8 + ((min ((zg670.take x8.toNat).drop 0).length (zg670.length - x8.toNat) : Nat) : Int)))) ?_; intro a215 hF216; clear hF214
      refine nl (qnI (hJ _ _ ?_)); clear hJ J
      rw [hl213] at hF216
      exact ⟨ao121, cap122, ao130, cap131, .int .i64 (w64 (x8 + ((min ((zg670.take x8.toNat).drop 0).length (zg670.length - x8.toNat) : Nat) : Int))), .int .i64 x8, .slice (some ⟨g67, 0, none⟩) zg670.length ((w64 ((bmul (wu64 (u0.length : Int)) (wu64 u1)).2)).toNat), .int .i64 x8, .slice ao121 (zg670.length - x8.toNat) cap122, .slice (some ⟨g67, 0, none⟩) zg670.length ((w64 ((bmul (wu64 (u0.length : Int)) (wu64 u1)).2)).toNat), .int .i64 x8, .slice ao130 (x8.toNat - 0) cap131, .int .i64 ((min ((zg670.take x8.toNat).drop 0).length (zg670.length - x8.toNat) : Nat) : Int), .int .i64 (w64 (x8 + ((min ((zg670.take x8.toNat).drop 0).length (zg670.length - x8.toNat) : Nat) : Int))), .own (tyInt .i64) 3 (some ⟨g67, 0, none⟩) ((w64 ((bmul (wu64 (u0.length : Int)) (wu64 u1)).2)).toNat) (zg670.take x8.toNat ++ ((zg670.take x8.toNat).drop 0).take (min ((zg670.take x8.toNat).drop 0).length (zg670.length - x8.toNat)) ++ zg670.drop (x8.toNat + min ((zg670.take x8.toNat).drop 0).length (zg670.length - x8.toNat))), hle147, hF216.region (by kernel_rfl) (by kernel_rfl), hMx.perm (List.Perm.refl _), (fun _ => by first | rfl | rw [hl213]), nu, (fun _ => by first | rfl | rw [hl213]), (fun _ => by first | rfl | rw [hl213]), (fun _ => by first | rfl | rw [hl213]), (fun _ => by first | rfl | rw [hl213]), (fun _ => by first | rfl | rw [hl213]), (fun _ => by first | rfl | rw [hl213]), (fun _ => by first | rfl | rw [hl213]), (fun _ => by first | rfl | rw [hl213]), (fun _ => by first | rfl | rw [hl213]), (tn hx7), kf, (fun _ => hs211), (fun _ => hs212)⟩
    case hE =>
     intro S hS a218 wd219 hI; refine hid ?_; intro G hG; obtain ⟨ao121, hI⟩ := hI; obtain ⟨cap122, hI⟩ := hI; obtain ⟨ao130, hI⟩ := hI; obtain ⟨cap131, hI⟩ := hI; obtain ⟨ud8, hI⟩ := hI; obtain ⟨ud38, hI⟩ := hI; obtain ⟨ud39, hI⟩ := hI; obtain ⟨ud40, hI⟩ := hI; obtain ⟨ud41, hI⟩ := hI; obtain ⟨ud42, hI⟩ := hI; obtain ⟨ud43, hI⟩ := hI; obtain ⟨ud44, hI⟩ := hI; obtain ⟨ud45, hI⟩ := hI; obtain ⟨ud46, hI⟩ := hI; obtain ⟨rh0, hI⟩ := hI; obtain ⟨hle147, hI⟩ := hI; obtain ⟨hFx, hI⟩ := hI; obtain ⟨hMx, hI⟩ := hI; obtain ⟨cu8, hI⟩ := hI; obtain ⟨cz8, hI⟩ := hI; obtain ⟨cu38, hI⟩ := hI; obtain ⟨cu39, hI⟩ := hI; obtain ⟨cu40, hI⟩ := hI; obtain ⟨cu41, hI⟩ := hI; obtain ⟨cu42, hI⟩ := hI; obtain ⟨cu43, hI⟩ := hI; obtain ⟨cu44, hI⟩ := hI; obtain ⟨cu45, hI⟩ := hI; obtain ⟨cu46, hI⟩ := hI; obtain ⟨cr0_0, hI⟩ := hI; obtain ⟨cr0_1, hI⟩ := hI; obtain ⟨cf0, hI⟩ := hI; have cf1 := hI; clear hI; refine hG ?_; clear hG G
     obtain rfl := cu8 (hS 9 (by decide))
     obtain rfl := cu38 (hS 0 (by decide))
     obtain rfl := cu39 (hS 1 (by decide))
     obtain rfl := cu40 (hS 2 (by decide))
     obtain rfl := cu41 (hS 3 (by decide))
     obtain rfl := cu42 (hS 4 (by decide))
     obtain rfl := cu43 (hS 5 (by decide))
     obtain rfl := cu44 (hS 6 (by decide))
     obtain rfl := cu45 (hS 7 (by decide))
     obtain rfl := cu46 (hS 8 (by decide))
     obtain rfl := cr0_1 (hS 7 (by decide))
     have hle0 := Fz.le.trans hle0 hle147
     have hs220 := hs3.mono hle147
     have hs221 := cf0 (hS 3 (by decide))
     have hs222 := cf1 (hS 6 (by decide))
     have hl223 : (zg670.take x8.toNat ++ ((zg670.take x8.toNat).drop 0).take (min ((zg670.take x8.toNat).drop 0).length (zg670.length - x8.toNat)) ++ zg670.drop (x8.toNat + min ((zg670.take x8.toNat).drop 0).length (zg670.length - x8.toNat))).length = zg670.length := by simp; try omega
     have hF224 : Fr 48 [] [⟨7, [], .slice (some ⟨g67, 0, none⟩) (zg670.take x8.toNat ++ ((zg670.take x8.toNat).drop 0).take (min ((zg670.take x8.toNat).drop 0).length (zg670.length - x8.toNat)) ++ zg670.drop (x8.toNat + min ((zg670.take x8.toNat).drop 0).length (zg670.length - x8.toNat))).length ((w64 ((bmul (wu64 (u0.length : Int)) (wu64 u1)).2)).toNat)⟩, ⟨8, [], .int .i64 (w64 (x8 + ((min ((zg670.take x8.toNat).drop 0).length (zg670.length - x8.toNat) : Nat) : Int)))⟩, ⟨38, [], .int .i64 x8⟩, ⟨39, [], .slice (some ⟨g67, 0, none⟩) (zg670.take x8.toNat ++ ((zg670.take x8.toNat).drop 0).take (min ((zg670.take x8.toNat).drop 0).length (zg670.length - x8.toNat)) ++ zg670.drop (x8.toNat + min ((zg670.take x8.toNat).drop 0).length (zg670.length - x8.toNat))).length ((w64 ((bmul (wu64 (u0.length : Int)) (wu64 u1)).2)).toNat)⟩, ⟨40, [], .int .i64 x8⟩, ⟨41, [], .slice ao121 (zg670.length - x8.toNat) cap122⟩, ⟨42, [], .slice (some ⟨g67, 0, none⟩) (zg670.take x8.toNat ++ ((zg670.take x8.toNat).drop 0).take (min ((zg670.take x8.toNat).drop 0).length (zg670.length - x8.toNat)) ++ zg670.drop (x8.toNat + min ((zg670.take x8.toNat).drop 0).length (zg670.length - x8.toNat))).length ((w64 ((bmul (wu64 (u0.length : Int)) (wu64 u1)).2)).toNat)⟩, ⟨43, [], .int .i64 x8⟩, ⟨44, [], .slice ao130 (x8.toNat - 0) cap131⟩, ⟨45, [], .int .i64 ((min ((zg670.take x8.toNat).drop 0).length (zg670.length - x8.toNat) : Nat) : Int)⟩, ⟨46, [], .int .i64 (w64 (x8 + ((min ((zg670.take x8.toNat).drop 0).length (zg670.length - x8.toNat) : Nat) : Int)))⟩] a218 := by rw [hl223]; exact hFx.region (by kernel_rfl) (by kernel_rfl)
     clear hFx
     refine ibn ?_
     refine rd ?_
     exact ⟨⟨w64 (x8 + ((min ((zg670.take x8.toNat).drop 0).length (zg670.length - x8.toNat) : Nat) : Int)), (zg670.take x8.toNat ++ ((zg670.take x8.toNat).drop 0).take (min ((zg670.take x8.toNat).drop 0).length (zg670.length - x8.toNat)) ++ zg670.drop (x8.toNat + min ((zg670.take x8.toNat).drop 0).length (zg670.length - x8.toNat)))⟩, hp146.1, hp146.2, (hF224.region (by kernel_rfl) (by kernel_rfl)).anyβ _ (by kernel_rfl), hMx.keep (List.Sublist.cons_cons _ (List.Sublist.slnil))⟩
   · -- no
    have hp225 := hp102.2 hb112; clear hp102
    refine wp_exit ?_
    refine thx ?_
    refine thx ?_
    refine ibx ?_
    refine thn ?_
    refine sqH ?_; intro hQ226Q hQ226
    refine s1 hF111 47 (.slice (some ⟨g67, 0, none⟩) zg670.length ((w64 ((bmul (wu64 (u0.length : Int)) (wu64 u1)).2)).toNat)) ?_; intro a227 hF228; clear hF111
    refine s1 hF228 4 (.slice (some ⟨g67, 0, none⟩) zg670.length ((w64 ((bmul (wu64 (u0.length : Int)) (wu64 u1)).2)).toNat)) ?_; intro a229 hF230; clear hF228
    refine nlH (hQ226 _ _ ?_); clear hQ226 hQ226Q
    refine wp_ret ?_
    refine rt (fn := Try.f15) (v := .slice (some ⟨g67, 0, none⟩) zg670.length ((w64 ((bmul (wu64 (u0.length : Int)) (wu64 u1)).2)).toNat)) hF230 (re1 hF230 (fn := Try.f15) rfl (by kernel_rfl)) ?_
    exact ⟨zg670, (some ⟨g67, 0, none⟩), ((w64 ((bmul (wu64 (u0.length : Int)) (wu64 u1)).2)).toNat), Z, rfl, hp225, hM101.keep (List.Sublist.cons_cons _ (List.Sublist.slnil))⟩

end Go.Proofs.Ytodkadlfhlagpaa
