/- The walks, made by program: each call does what its pure predicate says. -/
import Derived.Test.YtmbdcehmeiiaoaaDoorPJ
import Derived.Test.YtmbdcehmeiiaoaaDoorWI
set_option linter.unusedVariables false
set_option linter.unusedSimpArgs false
namespace Go.Proofs.YtmbdcehmeiiaoaaDoor
open Go.Sy Go.RowKit
theorem wsend_fun (u0 : List Frame) (hpre : ∀ f ∈ u0, ∀ x ∈ f.Data, 0 ≤ x ∧ x ≤ 255) (ao1 : Option Addr) (cap2 : Nat) (Z : Fz) (w : World) (hs3 : SlR tyFrame Z ao1 cap2 u0) (hZ : Z.on w) : Calls Tryd.prog 18 #[.slice ao1 u0.length cap2] w fun e w' => ∃ (ao1001 : Option Addr) (cap1002 : Nat) (Z' : Fz), e = .returned (.tuple #[str (sendS u0).1, .int .i64 (sendS u0).2.1, .slice ao1001 (sendS u0).2.2.1.length cap1002, .int .i64 (sendS u0).2.2.2]) ∧ Mem w.heap.size [] w Z [.own (tyInt .i64) 3 ao1001 cap1002 (sendS u0).2.2.1] Z' w' :=
  (wsend_walk u0 ao1 cap2 Z w hs3 hZ (wsend_ok u0 hpre)).mono fun _ _ ⟨r, h0, h1, h2, he, hk, hm⟩ => by subst hk; exact ⟨h0, h1, h2, he, hm⟩

theorem wfirst_fun (u0 : List Frame) (ao1 : Option Addr) (cap2 : Nat) (Z : Fz) (w : World) (hs3 : SlR tyFrame Z ao1 cap2 u0) (hZ : Z.on w) : Calls Tryd.prog 24 #[.slice ao1 u0.length cap2] w fun e w' => e = .returned (.tuple #[.int .i64 ((firstS u0).1), .int .i64 ((firstS u0).2)]) ∧ Below w.heap.size w w' :=
  (wfirst_walk u0 ao1 cap2 Z w hs3 hZ (wfirst_ok u0)).mono fun _ _ ⟨r, he, hk, hb⟩ => ⟨by subst hk; exact he, hb⟩

set_option maxRecDepth 100000 in
set_option maxHeartbeats 0 in
theorem ieq_walk (u0 : List Int) (u1 : List Int) (ao1 : Option Addr) (cap2 : Nat) (ao4 : Option Addr) (cap5 : Nat) (Z : Fz) (w : World) (hs3 : SlR (tyInt .i64) Z ao1 cap2 u0) (hs6 : SlR (tyInt .i64) Z ao4 cap5 u1) (hZ : Z.on w) {K : Bool → Prop} (hp : ieq_vc u0 u1 K) : Calls Tryd.prog 23 #[.slice ao1 u0.length cap2, .slice ao4 u1.length cap5] w fun e w' => ∃ r : Bool, e = .returned (.bool r) ∧ K r ∧ Below w.heap.size w w' := by
 refine enter0 Tryd.func23 rfl rfl (by kernel_rfl) ?_; intro a0 hF0; have hM0 := Mem.start w Z hZ; have hle0 := Fz.le.refl Z
 have hp7 := hp (hs3.small); clear hp
 have hp8 := hp7 (hs6.small); clear hp7
 refine sqH ?_; intro hQ9Q hQ9
 refine s1 hF0 4 (.bool false) ?_; intro a10 hF11; clear hF0
 refine nlH (hQ9 _ _ ?_); clear hQ9 hQ9Q
 refine wp_seq ?_
 refine sqH ?_; intro hQ12Q hQ12
 refine s1 hF11 6 (.slice ao1 u0.length cap2) ?_; intro a13 hF14; clear hF11
 refine s1 hF14 7 (.int .i64 (u0.length : Int)) ?_; intro a15 hF16; clear hF14
 refine s1 hF16 8 (.slice ao4 u1.length cap5) ?_; intro a17 hF18; clear hF16
 refine s1 hF18 9 (.int .i64 (u1.length : Int)) ?_; intro a19 hF20; clear hF18
 refine s1 hF20 10 (.bool ((u0.length : Int) != (u1.length : Int))) ?_; intro a21 hF22; clear hF20
 refine nlH (hQ12 _ _ ?_); clear hQ12 hQ12Q
 refine cd hF22 (t := (u0.length : Int) != (u1.length : Int)) (by kernel_rfl) (fun hb23 => ?_) (fun hb23 => ?_)
 · -- yes
  have hp24 := hp8.1 hb23; clear hp8
  refine sqH ?_; intro hQ25Q hQ25
  refine s1 hF22 4 (.bool false) ?_; intro a26 hF27; clear hF22
  refine nlH (hQ25 _ _ ?_); clear hQ25 hQ25Q
  refine wp_ret ?_
  refine thr ?_
  refine rt (fn := Tryd.f23) (v := .bool false) hF27 (re1 hF27 (fn := Tryd.f23) rfl (by kernel_rfl)) ?_
  exact ⟨false, rfl, hp24, hM0.below⟩
 · -- no
  have hp28 := hp8.2 hb23; clear hp8
  refine wp_skip ?_
  refine thn ?_
  refine wp_seq ?_
  refine sqH ?_; intro hQ29Q hQ29
  refine s1 hF22 11 (.slice ao1 u0.length cap2) ?_; intro a30 hF31; clear hF22
  refine s1 hF31 12 (.int .i64 (u0.length : Int)) ?_; intro a32 hF33; clear hF31
  refine s1 hF33 13 (.int .i64 0) ?_; intro a34 hF35; clear hF33
  refine nlH (hQ29 _ _ ?_); clear hQ29 hQ29Q
  refine wp_block ?_
  have hF36 : Fr 26 [] [⟨0, [], .slice ao1 u0.length cap2⟩, ⟨1, [], .slice ao4 u1.length cap5⟩, ⟨12, [], .int .i64 (u0.length : Int)⟩, ⟨13, [], .int .i64 0⟩] a34 := hF35.region (by kernel_rfl) (by kernel_rfl); clear hF35
  have hF38 : Fr 26 [] [⟨0, [], .slice ao1 u0.length cap2⟩, ⟨1, [], .slice ao4 u1.length cap5⟩, ⟨12, [], .int .i64 (u0.length : Int)⟩, ⟨13, [], .int .i64 0⟩] a34 := hF36.region (by kernel_rfl) (by kernel_rfl); clear hF36
  obtain ⟨inv37, mu37, hI41, hr40⟩ := hp28
  refine lp (ι := Int) (fun (s : Int) => [⟨0, [], .slice ao1 u0.length cap2⟩, ⟨1, [], .slice ao4 u1.length cap5⟩, ⟨12, [], .int .i64 (u0.length : Int)⟩, ⟨13, [], .int .i64 s⟩]) (fun (s : Int) => []) (fun (s : Int) => Z) (fun (s : Int) => inv37 s) (fun (s : Int) => mu37 s) 0 hI41 (by exact hF38.region (by kernel_rfl) (by kernel_rfl)) (by exact hM0) ?_
  rintro x13 hI39 a43 wd44 hF45 hM46
  have hF47 : Fr 26 [] [⟨0, [], .slice ao1 u0.length cap2⟩, ⟨1, [], .slice ao4 u1.length cap5⟩, ⟨12, [], .int .i64 (u0.length : Int)⟩, ⟨13, [], .int .i64 x13⟩] a43 := hF45; clear hF45 hF38
  have hM48 : Mem w.heap.size [] w Z [] Z wd44 := hM46; clear hM46 hM0
  have hp49 := hr40 x13 hI39
  refine sqH ?_; intro hQ50Q hQ50
  refine s1 hF47 14 (.bool (decide (x13 < (u0.length : Int)))) ?_; intro a51 hF52; clear hF47
  refine nlH (hQ50 _ _ ?_); clear hQ50 hQ50Q
  refine wp_seq ?_
  refine cd hF52 (t := decide (x13 < (u0.length : Int))) (by kernel_rfl) (fun hb53 => ?_) (fun hb53 => ?_)
  · -- yes
   have hp54 := hp49.1 hb53; clear hp49
   refine wp_skip ?_
   refine thn ?_
   refine wp_seq ?_
   refine wp_block ?_
   refine sqH ?_; intro hQ55Q hQ55
   refine s1 hF52 15 (.int .i64 x13) ?_; intro a56 hF57; clear hF52
   refine s1 hF57 5 (.int .i64 x13) ?_; intro a58 hF59; clear hF57
   refine nlH (hQ55 _ _ ?_); clear hQ55 hQ55Q
   have hF60 : Fr 26 [] [⟨0, [], .slice ao1 u0.length cap2⟩, ⟨1, [], .slice ao4 u1.length cap5⟩, ⟨5, [], .int .i64 x13⟩, ⟨12, [], .int .i64 (u0.length : Int)⟩, ⟨13, [], .int .i64 x13⟩] a58 := hF59.region (by kernel_rfl) (by kernel_rfl); clear hF59
   refine sqQH mixed (by kernel_rfl) hM48 ?_; intro hQ61Q hQ61
   refine q1 hF60 16 (.slice ao1 u0.length cap2) ?_; intro a63 hF64; clear hF60
   refine q1 hF64 17 (.int .i64 x13) ?_; intro a66 hF67; clear hF64
   have hc69 := hp54.1; have hp70 := hp54.2; clear hp54
   refine qix hF67 (T := (tyInt .i64)) (xs := u0) hs3 x13 hc69 (k := .i64) (e := 3) (bytes := 8) (nog rfl _) rfl (by kernel_rfl) rfl (by kernel_rfl) (by kernel_rfl) (by kernel_rfl) ?_; intro b71 off72 cs73 q74 a78 hq75 hP76 hT77 hF79; clear hF67
   have hp80 := hp70 q74 hq75; clear hp70
   obtain rfl : cs73 = ([.int .i64 q74] : List Value) := hT77
   refine qst hF79 (.int .i64 q74) (nog rfl _) rfl (by kernel_rfl) (fun v81 hC => lz hF79 hC.fz hP76 0 (g := []) rfl (by kernel_rfl) (by kernel_rfl) (by kernel_rfl) rfl) ?_; intro a82 hF83; clear hF79
   refine q1 hF83 20 (.slice ao4 u1.length cap5) ?_; intro a85 hF86; clear hF83
   refine q1 hF86 21 (.int .i64 x13) ?_; intro a88 hF89; clear hF86
   have hc91 := hp80.1; have hp92 := hp80.2; clear hp80
   refine qix hF89 (T := (tyInt .i64)) (xs := u1) hs6 x13 hc91 (k := .i64) (e := 3) (bytes := 8) (nog rfl _) rfl (by kernel_rfl) rfl (by kernel_rfl) (by kernel_rfl) (by kernel_rfl) ?_; intro b93 off94 cs95 q96 a100 hq97 hP98 hT99 hF101; clear hF89
   have hp102 := hp92 q96 hq97; clear hp92
   obtain rfl : cs95 = ([.int .i64 q96] : List Value) := hT99
   refine qst hF101 (.int .i64 q96) (nog rfl _) rfl (by kernel_rfl) (fun v103 hC => lz hF101 hC.fz hP98 0 (g := []) rfl (by kernel_rfl) (by kernel_rfl) (by kernel_rfl) rfl) ?_; intro a104 hF105; clear hF101
   refine q1 hF105 24 (.bool (q74 != q96)) ?_; intro a107 hF108; clear hF105
   refine qnl (hQ61 _ ?_); clear hQ61 hQ61Q; intro wd109 hM110; clear hM48
   refine cd hF108 (t := q74 != q96) (by kernel_rfl) (fun hb111 => ?_) (fun hb111 => ?_)
   · -- yes
    have hp112 := hp102.1 hb111; clear hp102
    refine sqH ?_; intro hQ113Q hQ113
    refine s1 hF108 4 (.bool false) ?_; intro a114 hF115; clear hF108
    refine nlH (hQ113 _ _ ?_); clear hQ113 hQ113Q
    refine wp_ret ?_
    refine ibr ?_
    refine thr ?_
    refine thr ?_
    refine ibr ?_
    refine thr ?_
    refine rt (fn := Tryd.f23) (v := .bool false) hF115 (re1 hF115 (fn := Tryd.f23) rfl (by kernel_rfl)) ?_
    exact ⟨false, rfl, hp112, hM110.below⟩
   · -- no
    have hp116 := hp102.2 hb111; clear hp102
    refine wp_skip ?_
    refine ibn ?_
    refine thn ?_
    refine rgH ?_; intro hQ117Q hQ117
    refine s1 hF108 25 (.int .i64 (w64 (x13 + 1))) ?_; intro a118 hF119; clear hF108
    refine s1 hF119 13 (.int .i64 (w64 (x13 + 1))) ?_; intro a120 hF121; clear hF119
    refine nlH (hQ117 _ _ ?_); clear hQ117 hQ117Q
    refine rd ?_
    exact ⟨w64 (x13 + 1), hp116.1, hp116.2, (hF121.region (by kernel_rfl) (by kernel_rfl)).anyβ _ (by kernel_rfl), hM110.keep (List.Sublist.slnil)⟩
  · -- no
   have hp122 := hp49.2 hb53; clear hp49
   refine wp_exit ?_
   refine thx ?_
   refine thx ?_
   refine ibx ?_
   refine thn ?_
   refine sqH ?_; intro hQ123Q hQ123
   refine s1 hF52 4 (.bool true) ?_; intro a124 hF125; clear hF52
   refine nlH (hQ123 _ _ ?_); clear hQ123 hQ123Q
   refine wp_ret ?_
   refine rt (fn := Tryd.f23) (v := .bool true) hF125 (re1 hF125 (fn := Tryd.f23) rfl (by kernel_rfl)) ?_
   exact ⟨true, rfl, hp122, hM48.below⟩

end Go.Proofs.YtmbdcehmeiiaoaaDoor
