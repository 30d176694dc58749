/- The walks, made by program: each call does what its pure predicate says. -/
import Derived.Test.YtmbdcehmeiiaoaaDoorPJ
import Derived.Test.YtmbdcehmeiiaoaaDoorWI
import Derived.Test.YtmbdcehmeiiaoaaDoorCore2
set_option linter.unusedVariables false
set_option linter.unusedSimpArgs false
namespace Go.Proofs.YtmbdcehmeiiaoaaDoor
open Go.Sy Go.RowKit
theorem wsend_fun (u0 : List Frame) (hpre : ∀ f ∈ u0, ∀ x ∈ f.Data, 0 ≤ x ∧ x ≤ 255) (ao1 : Option Addr) (cap2 : Nat) (Z : Fz) (w : World) (hs3 : SlR tyFrame Z ao1 cap2 u0) (hZ : Z.on w) : Calls Tryd.prog 18 #[.slice ao1 u0.length cap2] w fun e w' => ∃ (ao1001 : Option Addr) (cap1002 : Nat) (Z' : Fz), e = .returned (.tuple #[str (sendS u0).1, .int .i64 (sendS u0).2.1, .slice ao1001 (sendS u0).2.2.1.length cap1002, .int .i64 (sendS u0).2.2.2]) ∧ Mem w.heap.size [] w Z [.own (tyInt .i64) 3 ao1001 cap1002 (sendS u0).2.2.1] Z' w' :=
  (wsend_walk u0 ao1 cap2 Z w hs3 hZ (wsend_ok u0 hpre)).mono fun _ _ ⟨r, h0, h1, h2, he, hk, hm⟩ => by subst hk; exact ⟨h0, h1, h2, he, hm⟩

theorem wfirst_fun (u0 : List Frame) (ao1 : Option Addr) (cap2 : Nat) (Z : Fz) (w : World) (hs3 : SlR tyFrame Z ao1 cap2 u0) (hZ : Z.on w) : Calls Tryd.prog 24 #[.slice ao1 u0.length cap2] w fun e w' => e = .returned (.tuple #[.int .i64 ((firstS u0).1), .int .i64 ((firstS u0).2)]) ∧ Below w.heap.size w w' :=
  (wfirst_walk u0 ao1 cap2 Z w hs3 hZ (wfirst_ok u0)).mono fun _ _ ⟨r, he, hk, hb⟩ => ⟨by subst hk; exact he, hb⟩

set_option maxRecDepth 100000 in
set_option maxHeartbeats 0 in
theorem ieq_walk (u0 : List Int) (u1 : List Int) (ao1 : Option Addr) (cap2 : Nat) (ao4 : Option Addr) (cap5 : Nat) (Z : Fz) (w : World) (hs3 : SlR (tyInt .i64) Z ao1 cap2 u0) (hs6 : SlR (tyInt .i64) Z ao4 cap5 u1) (hZ : Z.on w) {K : Bool → Prop} (hp : ieq_vc u0 u1 K) : Calls Tryd.prog 23 #[.slice ao1 u0.length cap2, .slice ao4 u1.length cap5] w fun e w' => ∃ r : Bool, e = .returned (.bool r) ∧ K r ∧ Below w.heap.size w w' := by
 refine enter0 Tryd.func23 rfl rfl (by kernel_rfl) ?_; intro a0 hF0; have hM0 := Mem.start w Z hZ; have hle0 := Fz.le.refl Z
 have hp7 := hp (hs3.small); clear hp
 have hp8 := hp7 (hs6.small); clear hp7
 refine sqH ?_; intro hQ9Q hQ9
 refine s1 hF0 4 (.bool false) ?_; intro a10 hF11; clear hF0
 refine nlH (hQ9 _ _ ?_); clear hQ9 hQ9Q
 refine wp_seq ?_
 refine sqH ?_; intro hQ12Q hQ12
 refine s1 hF11 6 (.slice ao1 u0.length cap2) ?_; intro a13 hF14; clear hF11
 refine s1 hF14 7 (.int .i64 (u0.length : Int)) ?_; intro a15 hF16; clear hF14
 refine s1 hF16 8 (.slice ao4 u1.length cap5) ?_; intro a17 hF18; clear hF16
 refine s1 hF18 9 (.int .i64 (u1.length : Int)) ?_; intro a19 hF20; clear hF18
 refine s1 hF20 10 (.bool ((u0.length : Int) != (u1.length : Int))) ?_; intro a21 hF22; clear hF20
 refine nlH (hQ12 _ _ ?_); clear hQ12 hQ12Q
 refine cd hF22 (t := (u0.length : Int) != (u1.length : Int)) (by kernel_rfl) (fun hb23 => ?_) (fun hb23 => ?_)
 · -- yes
  have hp24 := hp8.1 hb23; clear hp8
  refine sqH ?_; intro hQ25Q hQ25
  refine s1 hF22 4 (.bool false) ?_; intro a26 hF27; clear hF22
  refine nlH (hQ25 _ _ ?_); clear hQ25 hQ25Q
  refine wp_ret ?_
  refine thr ?_
  refine rt (fn := Tryd.f23) (v := .bool false) hF27 (re1 hF27 (fn := Tryd.f23) rfl (by kernel_rfl)) ?_
  exact ⟨false, rfl, hp24, hM0.below⟩
 · -- no
  have hp28 := hp8.2 hb23; clear hp8
  refine wp_skip ?_
  refine thn ?_
  refine wp_seq ?_
  refine sqH ?_; intro hQ29Q hQ29
  refine s1 hF22 11 (.slice ao1 u0.length cap2) ?_; intro a30 hF31; clear hF22
  refine s1 hF31 12 (.int .i64 (u0.length : Int)) ?_; intro a32 hF33; clear hF31
  refine s1 hF33 13 (.int .i64 0) ?_; intro a34 hF35; clear hF33
  refine nlH (hQ29 _ _ ?_); clear hQ29 hQ29Q
  refine wp_block ?_
  have hF36 : Fr 26 [] [⟨0, [], .slice ao1 u0.length cap2⟩, ⟨1, [], .slice ao4 u1.length cap5⟩, ⟨12, [], .int .i64 (u0.length : Int)⟩, ⟨13, [], .int .i64 0⟩] a34 := hF35.region (by kernel_rfl) (by kernel_rfl); clear hF35
  have hF38 : Fr 26 [] [⟨0, [], .slice ao1 u0.length cap2⟩, ⟨1, [], .slice ao4 u1.length cap5⟩, ⟨12, [], .int .i64 (u0.length : Int)⟩, ⟨13, [], .int .i64 0⟩] a34 := hF36.region (by kernel_rfl) (by kernel_rfl); clear hF36
  obtain ⟨inv37, mu37, hI41, hr40⟩ := hp28
  refine lp (ι := Int) (fun (s : Int) => [⟨0, [], .slice ao1 u0.length cap2⟩, ⟨1, [], .slice ao4 u1.length cap5⟩, ⟨12, [], .int .i64 (u0.length : Int)⟩, ⟨13, [], .int .i64 s⟩]) (fun (s : Int) => []) (fun (s : Int) => Z) (fun (s : Int) => inv37 s) (fun (s : Int) => mu37 s) 0 hI41 (by exact hF38.region (by kernel_rfl) (by kernel_rfl)) (by exact hM0) ?_
  rintro x13 hI39 a43 wd44 hF45 hM46
  have hF47 : Fr 26 [] [⟨0, [], .slice ao1 u0.length cap2⟩, ⟨1, [], .slice ao4 u1.length cap5⟩, ⟨12, [], .int .i64 (u0.length : Int)⟩, ⟨13, [], .int .i64 x13⟩] a43 := hF45; clear hF45 hF38
  have hM48 : Mem w.heap.size [] w Z [] Z wd44 := hM46; clear hM46 hM0
  have hp49 := hr40 x13 hI39
  refine sqH ?_; intro hQ50Q hQ50
  refine s1 hF47 14 (.bool (decide (x13 < (u0.length : Int)))) ?_; intro a51 hF52; clear hF47
  refine nlH (hQ50 _ _ ?_); clear hQ50 hQ50Q
  refine wp_seq ?_
  refine cd hF52 (t := decide (x13 < (u0.length : Int))) (by kernel_rfl) (fun hb53 => ?_) (fun hb53 => ?_)
  · -- yes
   have hp54 := hp49.1 hb53; clear hp49
   refine wp_skip ?_
   refine thn ?_
   refine wp_seq ?_
   refine wp_block ?_
   refine sqH ?_; intro hQ55Q hQ55
   refine s1 hF52 15 (.int .i64 x13) ?_; intro a56 hF57; clear hF52
   refine s1 hF57 5 (.int .i64 x13) ?_; intro a58 hF59; clear hF57
   refine nlH (hQ55 _ _ ?_); clear hQ55 hQ55Q
   have hF60 : Fr 26 [] [⟨0, [], .slice ao1 u0.length cap2⟩, ⟨1, [], .slice ao4 u1.length cap5⟩, ⟨5, [], .int .i64 x13⟩, ⟨12, [], .int .i64 (u0.length : Int)⟩, ⟨13, [], .int .i64 x13⟩] a58 := hF59.region (by kernel_rfl) (by kernel_rfl); clear hF59
   refine sqQH mixed (by kernel_rfl) hM48 ?_; intro hQ61Q hQ61
   refine q1 hF60 16 (.slice ao1 u0.length cap2) ?_; intro a63 hF64; clear hF60
   refine q1 hF64 17 (.int .i64 x13) ?_; intro a66 hF67; clear hF64
   have hc69 := hp54.1; have hp70 := hp54.2; clear hp54
   refine qix hF67 (T := (tyInt .i64)) (xs := u0) hs3 x13 hc69 (k := .i64) (e := 3) (bytes := 8) (nog rfl _) rfl (by kernel_rfl) rfl (by kernel_rfl) (by kernel_rfl) (by kernel_rfl) ?_; intro b71 off72 cs73 q74 a78 hq75 hP76 hT77 hF79; clear hF67
   have hp80 := hp70 q74 hq75; clear hp70
   obtain rfl : cs73 = ([.int .i64 q74] : List Value) := hT77
   refine qst hF79 (.int .i64 q74) (nog rfl _) rfl (by kernel_rfl) (fun v81 hC => lz hF79 hC.fz hP76 0 (g := []) rfl (by kernel_rfl) (by kernel_rfl) (by kernel_rfl) rfl) ?_; intro a82 hF83; clear hF79
   refine q1 hF83 20 (.slice ao4 u1.length cap5) ?_; intro a85 hF86; clear hF83
   refine q1 hF86 21 (.int .i64 x13) ?_; intro a88 hF89; clear hF86
   have hc91 := hp80.1; have hp92 := hp80.2; clear hp80
   refine qix hF89 (T := (tyInt .i64)) (xs := u1) hs6 x13 hc91 (k := .i64) (e := 3) (bytes := 8) (nog rfl _) rfl (by kernel_rfl) rfl (by kernel_rfl) (by kernel_rfl) (by kernel_rfl) ?_; intro b93 off94 cs95 q96 a100 hq97 hP98 hT99 hF101; clear hF89
   have hp102 := hp92 q96 hq97; clear hp92
   obtain rfl : cs95 = ([.int .i64 q96] : List Value) := hT99
   refine qst hF101 (.int .i64 q96) (nog rfl _) rfl (by kernel_rfl) (fun v103 hC => lz hF101 hC.fz hP98 0 (g := []) rfl (by kernel_rfl) (by kernel_rfl) (by kernel_rfl) rfl) ?_; intro a104 hF105; clear hF101
   refine q1 hF105 24 (.bool (q74 != q96)) ?_; intro a107 hF108; clear hF105
   refine qnl (hQ61 _ ?_); clear hQ61 hQ61Q; intro wd109 hM110; clear hM48
   refine cd hF108 (t := q74 != q96) (by kernel_rfl) (fun hb111 => ?_) (fun hb111 => ?_)
   · -- yes
    have hp112 := hp102.1 hb111; clear hp102
    refine sqH ?_; intro hQ113Q hQ113
    refine s1 hF108 4 (.bool false) ?_; intro a114 hF115; clear hF108
    refine nlH (hQ113 _ _ ?_); clear hQ113 hQ113Q
    refine wp_ret ?_
    refine ibr ?_
    refine thr ?_
    refine thr ?_
    refine ibr ?_
    refine thr ?_
    refine rt (fn := Tryd.f23) (v := .bool false) hF115 (re1 hF115 (fn := Tryd.f23) rfl (by kernel_rfl)) ?_
    exact ⟨false, rfl, hp112, hM110.below⟩
   · -- no
    have hp116 := hp102.2 hb111; clear hp102
    refine wp_skip ?_
    refine ibn ?_
    refine thn ?_
    refine rgH ?_; intro hQ117Q hQ117
    refine s1 hF108 25 (.int .i64 (w64 (x13 + 1))) ?_; intro a118 hF119; clear hF108
    refine s1 hF119 13 (.int .i64 (w64 (x13 + 1))) ?_; intro a120 hF121; clear hF119
    refine nlH (hQ117 _ _ ?_); clear hQ117 hQ117Q
    refine rd ?_
    exact ⟨w64 (x13 + 1), hp116.1, hp116.2, (hF121.region (by kernel_rfl) (by kernel_rfl)).anyβ _ (by kernel_rfl), hM110.keep (List.Sublist.slnil)⟩
  · -- no
   have hp122 := hp49.2 hb53; clear hp49
   refine wp_exit ?_
   refine thx ?_
   refine thx ?_
   refine ibx ?_
   refine thn ?_
   refine sqH ?_; intro hQ123Q hQ123
   refine s1 hF52 4 (.bool true) ?_; intro a124 hF125; clear hF52
   refine nlH (hQ123 _ _ ?_); clear hQ123 hQ123Q
   refine wp_ret ?_
   refine rt (fn := Tryd.f23) (v := .bool true) hF125 (re1 hF125 (fn := Tryd.f23) rfl (by kernel_rfl)) ?_
   exact ⟨true, rfl, hp122, hM48.below⟩

set_option maxRecDepth 100000 in
set_option maxHeartbeats 0 in
theorem fclone_walk (u0 : List Frame) (ao1 : Option Addr) (cap2 : Nat) (Z : Fz) (w : World) (hs3 : SlR tyFrame Z ao1 cap2 u0) (hZ : Z.on w) {K : (List Frame) → Prop} (hp : fclone_vc u0 K) : Calls Tryd.prog 19 #[.slice ao1 u0.length cap2] w fun e w' => ∃ (r : (List Frame)) (ao1001 : Option Addr) (cap1002 : Nat) (Z' : Fz), e = .returned (.slice ao1001 r.length cap1002) ∧ K r ∧ Mem w.heap.size [] w Z [.own tyFrame 24 ao1001 cap1002 r] Z' w' := by
 refine enter0 Tryd.func19 rfl rfl (by kernel_rfl) ?_; intro a0 hF0; have hM0 := Mem.start w Z hZ; have hle0 := Fz.le.refl Z
 have hp4 := hp (hs3.small); clear hp
 refine sqH ?_; intro hQ5Q hQ5
 refine s1 hF0 2 (.slice none 0 0) ?_; intro a6 hF7; clear hF0
 refine nlH (hQ5 _ _ ?_); clear hQ5 hQ5Q
 refine wp_seq ?_
 refine sqH ?_; intro hQ8Q hQ8
 refine s1 hF7 3 (.slice ao1 u0.length cap2) ?_; intro a9 hF10; clear hF7
 obtain ⟨nb11, hnb12⟩ : ∃ b, ao1.isNone = b := ⟨_, rfl⟩; have hp13 := hp4 nb11 (by rw [← hnb12]; exact hs3.isNone); clear hp4
 refine st hF10 (.bool nb11) (nog rfl _) rfl (by kernel_rfl) (re_ (r := .ok (.value (.bool ao1.isNone)) w) (by cases ao1 <;> exact p0 hF10 (by kernel_rfl)) (by rw [hnb12])) ?_; intro a14 hF15; clear hF10
 refine nlH (hQ8 _ _ ?_); clear hQ8 hQ8Q
 refine cd hF15 (t := nb11) (by kernel_rfl) (fun hb16 => ?_) (fun hb16 => ?_)
 · -- yes
  have hp17 := hp13.1 hb16; clear hp13
  refine sqH ?_; intro hQ18Q hQ18
  refine s1 hF15 2 (.slice none 0 0) ?_; intro a19 hF20; clear hF15
  refine nlH (hQ18 _ _ ?_); clear hQ18 hQ18Q
  refine wp_ret ?_
  refine thr ?_
  have hM21 : Mem w.heap.size [] w Z [.own tyFrame 24 none 0 ([] : List Frame)] Z w := hM0.addNil tyFrame 24 (by decide); clear hM0
  refine rt (fn := Tryd.f19) (v := .slice none ([] : List Frame).length 0) hF20 (re1 hF20 (fn := Tryd.f19) rfl (by kernel_rfl)) ?_
  exact ⟨([] : List Frame), none, 0, Z, rfl, hp17, hM21.keep (List.Sublist.cons_cons _ (List.Sublist.slnil))⟩
 · -- no
  have hp22 := hp13.2 hb16; clear hp13
  refine wp_skip ?_
  refine thn ?_
  refine sqH ?_; intro hQ23Q hQ23
  refine sn hF15 hM0 (fun b => .slice (some ⟨b, 0, none⟩) 0 0) [] 24 (nog rfl _) rfl (by kernel_rfl) (by kernel_rfl) ?_; intro b24 a25 wd27 hF26 hM28; clear hF15 hM0
  refine s1 hF26 6 (.slice ao1 u0.length cap2) ?_; intro a29 hF30; clear hF26
  have hM31 : Mem w.heap.size [] w Z [.own tyFrame 24 (some ⟨b24, 0, none⟩) 0 ([] : List Frame)] Z wd27 := hM28.rowOwn (T := tyFrame) (xs := ([] : List Frame)) 0 rfl (by decide) (by show 0 ≤ lim; decide) (RepAll.nil _ _); clear hM28
  have hc32 := hp22.1; have hp33 := hp22.2; clear hp22
  refine ap hF30 hM31 0 (T := tyFrame) (xs := ([] : List Frame)) (ys := u0) (ao := (some ⟨b24, 0, none⟩)) (cap := 0) (ao2 := ao1) (cap2 := cap2) (t := 38) (e := 24) (bytes := 48) (nog rfl _) rfl (by kernel_rfl) rfl (by kernel_rfl) (by kernel_rfl) (by kernel_rfl) rfl (Src.fz (by decide) hM31.fz hs3) hc32 ?_; intro ao34 cap35 a39 wd36 hnil37 hF40 hM38; clear hF30 hM31
  have hM41 : Mem w.heap.size [] w Z [.own tyFrame 24 ao34 cap35 (([] : List Frame) ++ u0)] Z wd36 := hM38; clear hM38
  refine s1 hF40 2 (.slice ao34 (([] : List Frame) ++ u0).length cap35) ?_; intro a42 hF43; clear hF40
  refine nlH (hQ23 _ _ ?_); clear hQ23 hQ23Q
  refine wp_ret ?_
  refine rt (fn := Tryd.f19) (v := .slice ao34 (([] : List Frame) ++ u0).length cap35) hF43 (re1 hF43 (fn := Tryd.f19) rfl (by kernel_rfl)) ?_
  exact ⟨([] : List Frame) ++ u0, ao34, cap35, Z, rfl, hp33, hM41.keep (List.Sublist.cons_cons _ (List.Sublist.slnil))⟩

set_option maxRecDepth 100000 in
set_option maxHeartbeats 0 in
theorem frev_walk (u0 : List Frame) (ao1 : Option Addr) (cap2 : Nat) (B : Nat) (w0 : World) (Z0 : Fz) (Rr : List Res) (Z : Fz) (w : World) (hM0 : Mem B [] w0 Z0 ((.own tyFrame 24 ao1 cap2 u0) :: Rr) Z w) (hZ : Z.on w) {K : (List Frame) → Prop} (hp : frev_vc u0 K) : Calls Tryd.prog 20 #[.slice ao1 u0.length cap2] w fun e w' => ∃ (r : (List Frame)) (Z' : Fz), e = .returned (.tuple #[]) ∧ K r ∧ Fz.le Z Z' ∧ (r.length = u0.length) ∧ Mem B [] w0 Z0 ((.own tyFrame 24 ao1 cap2 r) :: Rr) Z' w' := by
 refine enter0 Tryd.func20 rfl rfl (by kernel_rfl) ?_; intro a0 hF0; have hle0 := Fz.le.refl Z
 have hp3 := hp (hM0.ownSmall 0 rfl); clear hp
 refine sqH ?_; intro hQ4Q hQ4
 refine s1 hF0 4 (.slice ao1 u0.length cap2) ?_; intro a5 hF6; clear hF0
 refine s1 hF6 5 (.int .i64 (u0.length : Int)) ?_; intro a7 hF8; clear hF6
 refine s1 hF8 6 (.int .i64 (w64 ((u0.length : Int) - 1))) ?_; intro a9 hF10; clear hF8
 refine s1 hF10 2 (.int .i64 0) ?_; intro a11 hF12; clear hF10
 refine s1 hF12 3 (.int .i64 (w64 ((u0.length : Int) - 1))) ?_; intro a13 hF14; clear hF12
 refine nlH (hQ4 _ _ ?_); clear hQ4 hQ4Q
 refine wp_block ?_
 have hF15 : Fr 28 [] [⟨0, [], .slice ao1 u0.length cap2⟩, ⟨2, [], .int .i64 0⟩, ⟨3, [], .int .i64 (w64 ((u0.length : Int) - 1))⟩] a13 := hF14.region (by kernel_rfl) (by kernel_rfl); clear hF14
 have hF17 : Fr 28 [] [⟨0, [], .slice ao1 u0.length cap2⟩, ⟨2, [], .int .i64 0⟩, ⟨3, [], .int .i64 (w64 ((u0.length : Int) - 1))⟩] a13 := hF15.region (by kernel_rfl) (by kernel_rfl); clear hF15
 obtain ⟨inv16, mu16, hI20, hr19⟩ := hp3
 refine lp (ι := Int × Int × (List Frame)) (fun (s : Int × Int × (List Frame)) => [⟨0, [], .slice ao1 s.2.2.length cap2⟩, ⟨2, [], .int .i64 s.1⟩, ⟨3, [], .int .i64 s.2.1⟩]) (fun (s : Int × Int × (List Frame)) => ((.own tyFrame 24 ao1 cap2 s.2.2) :: Rr)) (fun (s : Int × Int × (List Frame)) => Z) (fun (s : Int × Int × (List Frame)) => inv16 s.1 s.2.1 s.2.2) (fun (s : Int × Int × (List Frame)) => mu16 s.1 s.2.1 s.2.2) ⟨0, w64 ((u0.length : Int) - 1), u0⟩ hI20 (by exact hF17.region (by kernel_rfl) (by kernel_rfl)) (by exact hM0) ?_
 rintro ⟨x2, x3, zao1⟩ hI18 a22 wd23 hF24 hM25
 have hF26 : Fr 28 [] [⟨0, [], .slice ao1 zao1.length cap2⟩, ⟨2, [], .int .i64 x2⟩, ⟨3, [], .int .i64 x3⟩] a22 := hF24; clear hF24 hF17
 have hM27 : Mem B [] w0 Z0 ((.own tyFrame 24 ao1 cap2 zao1) :: Rr) Z wd23 := hM25; clear hM25 hM0
 have hp28 := hr19 x2 x3 zao1 hI18
 refine wp_seq ?_
 refine sqH ?_; intro hQ29Q hQ29
 refine s1 hF26 7 (.int .i64 x2) ?_; intro a30 hF31; clear hF26
 refine s1 hF31 8 (.int .i64 x3) ?_; intro a32 hF33; clear hF31
 refine s1 hF33 9 (.bool (decide (x2 < x3))) ?_; intro a34 hF35; clear hF33
 refine nlH (hQ29 _ _ ?_); clear hQ29 hQ29Q
 refine cd hF35 (t := decide (x2 < x3)) (by kernel_rfl) (fun hb36 => ?_) (fun hb36 => ?_)
 · -- yes
  have hp37 := hp28.1 hb36; clear hp28
  refine wp_skip ?_
  refine thn ?_
  refine wp_seq ?_
  refine wp_block ?_
  have hF38 : Fr 28 [] [⟨0, [], .slice ao1 zao1.length cap2⟩, ⟨2, [], .int .i64 x2⟩, ⟨3, [], .int .i64 x3⟩] a34 := hF35.region (by kernel_rfl) (by kernel_rfl); clear hF35
  have hcd6_0 := hp37.1; have hp91 := hp37.2; clear hp37
  obtain ⟨qd7_0, hqd7_0⟩ : ∃ q, zao1[x3.toNat]? = some q := ⟨_, List.getElem?_eq_getElem (by omega)⟩; have hp92 := hp91 qd7_0 hqd7_0; clear hp91
  have hcd10_0 := hp92.1; have hp93 := hp92.2; clear hp92
  obtain ⟨qd11_0, hqd11_0⟩ : ∃ q, zao1[x2.toNat]? = some q := ⟨_, List.getElem?_eq_getElem (by omega)⟩; have hp94 := hp93 qd11_0 hqd11_0; clear hp93
  have hcd12_0 := hp94.1; have hp95 := hp94.2; clear hp94
  have hcd14_0 := hp95.1; have hp96 := hp95.2; clear hp95
  refine any_invE mixed [[], [], [], [], [], [], [4, 5], [6], [], [], [8, 9], [10], [0, 1, 4, 5, 6, 7, 11], [0, 1, 4, 5, 6, 7, 11, 12], [0, 1, 2, 3, 4, 5, 6, 7, 8, 9, 10, 11, 12, 13], [0, 1, 2, 3, 4, 5, 6, 7, 8, 9, 10, 11, 12, 13, 14]] 16 (fun S a w1 => ∃ (g51 : Nat) (ao58 : Option Addr) (cap59 : Nat) (g67 : Nat) (ao74 : Option Addr) (cap75 : Nat) (g79 : Nat) (g85 : Nat) (ud14 : Value) (ud15 : Value) (ud16 : Value) (ud17 : Value) (ud18 : Value) (ud19 : Value) (ud20 : Value) (ud21 : Value) (ud22 : Value) (ud23 : Value) (ud24 : Value) (ud25 : Value) (ud26 : Value) (ud27 : Value) (rh0 : Res), Fz.le Z Z ∧ Fr 28 [] [⟨0, [], .slice ao1 zao1.length cap2⟩, ⟨2, [], .int .i64 x2⟩, ⟨3, [], .int .i64 x3⟩, ⟨14, [], ud14⟩, ⟨15, [], ud15⟩, ⟨16, [], ud16⟩, ⟨17, [], ud17⟩, ⟨18, [], ud18⟩, ⟨19, [], ud19⟩, ⟨20, [], ud20⟩, ⟨21, [], ud21⟩, ⟨22, [], ud22⟩, ⟨23, [], ud23⟩, ⟨24, [], ud24⟩, ⟨25, [], ud25⟩, ⟨26, [], ud26⟩, ⟨27, [], ud27⟩] a ∧ Mem B [] w0 Z0 (rh0 :: Rr) Z w1 ∧ (S 0 = true → ud14 = .slice ao1 zao1.length cap2) ∧ (S 1 = true → ud15 = .int .i64 x2) ∧ (S 2 = true → ud16 = .slice ao1 zao1.length cap2) ∧ (S 3 = true → ud17 = .int .i64 x3) ∧ (S 4 = true → ud18 = .slice ao1 zao1.length cap2) ∧ (S 5 = true → ud19 = .int .i64 x3) ∧ (S 6 = true → ud20 = .pointer (some ⟨g51, x3.toNat * 6, none⟩)) ∧ (S 7 = true → ud21 = .agg #[.int .i64 qd7_0.ID, .bool qd7_0.Long, .bool qd7_0.Fast, .bool qd7_0.Remote, .int .i64 qd7_0.Size, .slice ao58 qd7_0.Data.length cap59]) ∧ (S 8 = true → ud22 = .slice ao1 zao1.length cap2) ∧ (S 9 = true → ud23 = .int .i64 x2) ∧ (S 10 = true → ud24 = .pointer (some ⟨g67, x2.toNat * 6, none⟩)) ∧ (S 11 = true → ud25 = .agg #[.int .i64 qd11_0.ID, .bool qd11_0.Long, .bool qd11_0.Fast, .bool qd11_0.Remote, .int .i64 qd11_0.Size, .slice ao74 qd11_0.Data.length cap75]) ∧ (S 12 = true → ud26 = .pointer (some ⟨g79, x2.toNat * 6, none⟩)) ∧ (S 14 = true → ud27 = .pointer (some ⟨g85, x3.toNat * 6, none⟩)) ∧ (S 13 = false → rh0 = .own tyFrame 24 ao1 cap2 zao1) ∧ (S 13 = true → S 15 = false → rh0 = .own tyFrame 24 ao1 cap2 (zao1.set x2.toNat qd7_0)) ∧ (S 15 = true → rh0 = .own tyFrame 24 ao1 cap2 ((zao1.set x2.toNat qd7_0).set x3.toNat qd11_0)) ∧ (S 6 = true → ao1 = some ⟨g51, 0, none⟩) ∧ (S 7 = true → SlR (tyInt .u8) Z ao58 cap59 qd7_0.Data) ∧ (S 10 = true → ao1 = some ⟨g67, 0, none⟩) ∧ (S 11 = true → SlR (tyInt .u8) Z ao74 cap75 qd11_0.Data) ∧ (S 12 = true → ao1 = some ⟨g79, 0, none⟩) ∧ (S 14 = true → ao1 = some ⟨g85, 0, none⟩)) ?h0 ?hs ?hE
  case h0 =>
   have hF98 := hF38.any 14
   have hF99 := hF98.any 15
   have hF100 := hF99.any 16
   have hF101 := hF100.any 17
   have hF102 := hF101.any 18
   have hF103 := hF102.any 19
   have hF104 := hF103.any 20
   have hF105 := hF104.any 21
   have hF106 := hF105.any 22
   have hF107 := hF106.any 23
   have hF108 := hF107.any 24
   have hF109 := hF108.any 25
   have hF110 := hF109.any 26
   have hF111 := hF110.any 27
   have hM112 := (hM27.perm (List.Perm.refl _)).drew
   exact ⟨0, none, 0, 0, none, 0, 0, 0, a34.tmps.getD 14 undef, a34.tmps.getD 15 undef, a34.tmps.getD 16 undef, a34.tmps.getD 17 undef, a34.tmps.getD 18 undef, a34.tmps.getD 19 undef, a34.tmps.getD 20 undef, a34.tmps.getD 21 undef, a34.tmps.getD 22 undef, a34.tmps.getD 23 undef, a34.tmps.getD 24 undef, a34.tmps.getD 25 undef, a34.tmps.getD 26 undef, a34.tmps.getD 27 undef, .own tyFrame 24 ao1 cap2 zao1, Fz.le.refl _, hF111.region (by kernel_rfl) (by kernel_rfl), hM112, ff, ff, ff, ff, ff, ff, ff, ff, ff, ff, ff, ff, ff, ff, kf, ff, ff, ff, ff, ff, ff, ff, ff⟩
  case hs =>
   intro S hcl i o hil hi hSi hpre a w1 hI; refine Go.Sy.hid ?_; intro G hG; obtain ⟨g51, hI⟩ := hI; obtain ⟨ao58, hI⟩ := hI; obtain ⟨cap59, hI⟩ := hI; obtain ⟨g67, hI⟩ := hI; obtain ⟨ao74, hI⟩ := hI; obtain ⟨cap75, hI⟩ := hI; obtain ⟨g79, hI⟩ := hI; obtain ⟨g85, hI⟩ := hI; obtain ⟨ud14, hI⟩ := hI; obtain ⟨ud15, hI⟩ := hI; obtain ⟨ud16, hI⟩ := hI; obtain ⟨ud17, hI⟩ := hI; obtain ⟨ud18, hI⟩ := hI; obtain ⟨ud19, hI⟩ := hI; obtain ⟨ud20, hI⟩ := hI; obtain ⟨ud21, hI⟩ := hI; obtain ⟨ud22, hI⟩ := hI; obtain ⟨ud23, hI⟩ := hI; obtain ⟨ud24, hI⟩ := hI; obtain ⟨ud25, hI⟩ := hI; obtain ⟨ud26, hI⟩ := hI; obtain ⟨ud27, hI⟩ := hI; obtain ⟨rh0, hI⟩ := hI; obtain ⟨hle97, hI⟩ := hI; obtain ⟨hFx, hI⟩ := hI; obtain ⟨hMx, hI⟩ := hI; obtain ⟨cu14, hI⟩ := hI; obtain ⟨cu15, hI⟩ := hI; obtain ⟨cu16, hI⟩ := hI; obtain ⟨cu17, hI⟩ := hI; obtain ⟨cu18, hI⟩ := hI; obtain ⟨cu19, hI⟩ := hI; obtain ⟨cu20, hI⟩ := hI; obtain ⟨cu21, hI⟩ := hI; obtain ⟨cu22, hI⟩ := hI; obtain ⟨cu23, hI⟩ := hI; obtain ⟨cu24, hI⟩ := hI; obtain ⟨cu25, hI⟩ := hI; obtain ⟨cu26, hI⟩ := hI; obtain ⟨cu27, hI⟩ := hI; obtain ⟨cr0_0, hI⟩ := hI; obtain ⟨cr0_1, hI⟩ := hI; obtain ⟨cr0_2, hI⟩ := hI; obtain ⟨cf0, hI⟩ := hI; obtain ⟨cf1, hI⟩ := hI; obtain ⟨cf2, hI⟩ := hI; obtain ⟨cf3, hI⟩ := hI; obtain ⟨cf4, hI⟩ := hI; have cf5 := hI; clear hI
   have hcase : i = 0 ∨ i = 1 ∨ i = 2 ∨ i = 3 ∨ i = 4 ∨ i = 5 ∨ i = 6 ∨ i = 7 ∨ i = 8 ∨ i = 9 ∨ i = 10 ∨ i = 11 ∨ i = 12 ∨ i = 13 ∨ i = 14 ∨ i = 15 := by clear hi; omega
   rcases hcase with rfl | rfl | rfl | rfl | rfl | rfl | rfl | rfl | rfl | rfl | rfl | rfl | rfl | rfl | rfl | rfl
   · -- 0: move
    obtain rfl := Option.some.inj hi
    have hx0 := hSi
    have hx12 := negF hcl 12 0 (by kernel_rfl) hx0
    have hx13 := negF hcl 13 0 (by kernel_rfl) hx0
    have hx14 := negF hcl 14 0 (by kernel_rfl) hx0
    have hx15 := negF hcl 15 0 (by kernel_rfl) hx0
    obtain rfl := cr0_0 hx13
    refine hG (any_step ?_); clear hG G; intro A J hJ
    have hle0 := Fz.le.trans hle0 hle97
    refine s1 hFx 14 (.slice ao1 zao1.length cap2) ?_; intro a113 hF114; clear hFx
    refine nl (qnI (hJ _ _ ?_)); clear hJ J
    exact ⟨g51, ao58, cap59, g67, ao74, cap75, g79, g85, .slice ao1 zao1.length cap2, ud15, ud16, ud17, ud18, ud19, ud20, ud21, ud22, ud23, ud24, ud25, ud26, ud27, .own tyFrame 24 ao1 cap2 zao1, hle97, hF114.region (by kernel_rfl) (by kernel_rfl), hMx.perm (List.Perm.refl _), kf, cu15, cu16, cu17, cu18, cu19, cu20, cu21, cu22, cu23, cu24, cu25, (nt hx12), (nt hx14), kf, (fun h _ => nt hx13 h), (nt hx15), cf0, cf1, cf2, cf3, (nt hx12), (nt hx14)⟩
   · -- 1: move
    obtain rfl := Option.some.inj hi
    have hx1 := hSi
    have hx12 := negF hcl 12 1 (by kernel_rfl) hx1
    have hx13 := negF hcl 13 1 (by kernel_rfl) hx1
    have hx14 := negF hcl 14 1 (by kernel_rfl) hx1
    have hx15 := negF hcl 15 1 (by kernel_rfl) hx1
    obtain rfl := cr0_0 hx13
    refine hG (any_step ?_); clear hG G; intro A J hJ
    have hle0 := Fz.le.trans hle0 hle97
    refine s1 hFx 15 (.int .i64 x2) ?_; intro a116 hF117; clear hFx
    refine nl (qnI (hJ _ _ ?_)); clear hJ J
    exact ⟨g51, ao58, cap59, g67, ao74, cap75, g79, g85, ud14, .int .i64 x2, ud16, ud17, ud18, ud19, ud20, ud21, ud22, ud23, ud24, ud25, ud26, ud27, .own tyFrame 24 ao1 cap2 zao1, hle97, hF117.region (by kernel_rfl) (by kernel_rfl), hMx.perm (List.Perm.refl _), cu14, kf, cu16, cu17, cu18, cu19, cu20, cu21, cu22, cu23, cu24, cu25, (nt hx12), (nt hx14), kf, (fun h _ => nt hx13 h), (nt hx15), cf0, cf1, cf2, cf3, (nt hx12), (nt hx14)⟩
   · -- 2: move
    obtain rfl := Option.some.inj hi
    have hx2 := hSi
    have hx14 := negF hcl 14 2 (by kernel_rfl) hx2
    have hx15 := negF hcl 15 2 (by kernel_rfl) hx2
    refine hG (any_step ?_); clear hG G; intro A J hJ
    have hle0 := Fz.le.trans hle0 hle97
    refine s1 hFx 16 (.slice ao1 zao1.length cap2) ?_; intro a119 hF120; clear hFx
    refine nl (qnI (hJ _ _ ?_)); clear hJ J
    exact ⟨g51, ao58, cap59, g67, ao74, cap75, g79, g85, ud14, ud15, .slice ao1 zao1.length cap2, ud17, ud18, ud19, ud20, ud21, ud22, ud23, ud24, ud25, ud26, ud27, rh0, hle97, hF120.region (by kernel_rfl) (by kernel_rfl), hMx.perm (List.Perm.refl _), cu14, cu15, kf, cu17, cu18, cu19, cu20, cu21, cu22, cu23, cu24, cu25, cu26, (nt hx14), cr0_0, cr0_1, (nt hx15), cf0, cf1, cf2, cf3, cf4, (nt hx14)⟩
   · -- 3: move
    obtain rfl := Option.some.inj hi
    have hx3 := hSi
    have hx14 := negF hcl 14 3 (by kernel_rfl) hx3
    have hx15 := negF hcl 15 3 (by kernel_rfl) hx3
    refine hG (any_step ?_); clear hG G; intro A J hJ
    have hle0 := Fz.le.trans hle0 hle97
    refine s1 hFx 17 (.int .i64 x3) ?_; intro a122 hF123; clear hFx
    refine nl (qnI (hJ _ _ ?_)); clear hJ J
    exact ⟨g51, ao58, cap59, g67, ao74, cap75, g79, g85, ud14, ud15, ud16, .int .i64 x3, ud18, ud19, ud20, ud21, ud22, ud23, ud24, ud25, ud26, ud27, rh0, hle97, hF123.region (by kernel_rfl) (by kernel_rfl), hMx.perm (List.Perm.refl _), cu14, cu15, cu16, kf, cu18, cu19, cu20, cu21, cu22, cu23, cu24, cu25, cu26, (nt hx14), cr0_0, cr0_1, (nt hx15), cf0, cf1, cf2, cf3, cf4, (nt hx14)⟩
   · -- 4: move
    obtain rfl := Option.some.inj hi
    have hx4 := hSi
    have hx6 := negF hcl 6 4 (by kernel_rfl) hx4
    have hx7 := negF hcl 7 6 (by kernel_rfl) hx6
    have hx12 := negF hcl 12 4 (by kernel_rfl) hx4
    have hx13 := negF hcl 13 4 (by kernel_rfl) hx4
    have hx14 := negF hcl 14 4 (by kernel_rfl) hx4
    have hx15 := negF hcl 15 4 (by kernel_rfl) hx4
    obtain rfl := cr0_0 hx13
    refine hG (any_step ?_); clear hG G; intro A J hJ
    have hle0 := Fz.le.trans hle0 hle97
    refine s1 hFx 18 (.slice ao1 zao1.length cap2) ?_; intro a125 hF126; clear hFx
    refine nl (qnI (hJ _ _ ?_)); clear hJ J
    exact ⟨g51, ao58, cap59, g67, ao74, cap75, g79, g85, ud14, ud15, ud16, ud17, .slice ao1 zao1.length cap2, ud19, ud20, ud21, ud22, ud23, ud24, ud25, ud26, ud27, .own tyFrame 24 ao1 cap2 zao1, hle97, hF126.region (by kernel_rfl) (by kernel_rfl), hMx.perm (List.Perm.refl _), cu14, cu15, cu16, cu17, kf, cu19, (nt hx6), (nt hx7), cu22, cu23, cu24, cu25, (nt hx12), (nt hx14), kf, (fun h _ => nt hx13 h), (nt hx15), (nt hx6), (nt hx7), cf2, cf3, (nt hx12), (nt hx14)⟩
   · -- 5: move
    obtain rfl := Option.some.inj hi
    have hx5 := hSi
    have hx6 := negF hcl 6 5 (by kernel_rfl) hx5
    have hx7 := negF hcl 7 6 (by kernel_rfl) hx6
    have hx12 := negF hcl 12 5 (by kernel_rfl) hx5
    have hx13 := negF hcl 13 5 (by kernel_rfl) hx5
    have hx14 := negF hcl 14 5 (by kernel_rfl) hx5
    have hx15 := negF hcl 15 5 (by kernel_rfl) hx5
    obtain rfl := cr0_0 hx13
    refine hG (any_step ?_); clear hG G; intro A J hJ
    have hle0 := Fz.le.trans hle0 hle97
    refine s1 hFx 19 (.int .i64 x3) ?_; intro a128 hF129; clear hFx
    refine nl (qnI (hJ _ _ ?_)); clear hJ J
    exact ⟨g51, ao58, cap59, g67, ao74, cap75, g79, g85, ud14, ud15, ud16, ud17, ud18, .int .i64 x3, ud20, ud21, ud22, ud23, ud24, ud25, ud26, ud27, .own tyFrame 24 ao1 cap2 zao1, hle97, hF129.region (by kernel_rfl) (by kernel_rfl), hMx.perm (List.Perm.refl _), cu14, cu15, cu16, cu17, cu18, kf, (nt hx6), (nt hx7), cu22, cu23, cu24, cu25, (nt hx12), (nt hx14), kf, (fun h _ => nt hx13 h), (nt hx15), (nt hx6), (nt hx7), cf2, cf3, (nt hx12), (nt hx14)⟩
   · -- 6: indexAddr
    obtain rfl := Option.some.inj hi
    have hx5 := hpre 5 (by kernel_rfl)
    have hx4 := hpre 4 (by kernel_rfl)
    have hx6 := hSi
    have hx7 := negF hcl 7 6 (by kernel_rfl) hx6
    have hx12 := negF hcl 12 6 (by kernel_rfl) hx6
    have hx13 := negF hcl 13 6 (by kernel_rfl) hx6
    have hx14 := negF hcl 14 6 (by kernel_rfl) hx6
    have hx15 := negF hcl 15 6 (by kernel_rfl) hx6
    obtain rfl := cu18 hx4
    obtain rfl := cu19 hx5
    obtain rfl := cr0_0 hx13
    refine hG (any_step ?_); clear hG G; intro A J hJ
    have hle0 := Fz.le.trans hle0 hle97
    refine ixo hFx hMx 0 (T := tyFrame) (xs := zao1) x3 (by simpa only [List.length_set] using hcd6_0) (k := .i64) (e := 24) (bytes := 48) (nog rfl _) rfl (by kernel_rfl) rfl (by kernel_rfl) (by kernel_rfl) rfl (by kernel_rfl) ?_; intro g131 a133 hg132 hF134; clear hFx
    refine nl (qnI (hJ _ _ ?_)); clear hJ J
    exact ⟨g131, ao58, cap59, g67, ao74, cap75, g79, g85, ud14, ud15, ud16, ud17, .slice ao1 zao1.length cap2, .int .i64 x3, .pointer (some ⟨g131, x3.toNat * 6, none⟩), ud21, ud22, ud23, ud24, ud25, ud26, ud27, .own tyFrame 24 ao1 cap2 zao1, hle97, hF134.region (by kernel_rfl) (by kernel_rfl), hMx.perm (List.Perm.refl _), cu14, cu15, cu16, cu17, kf, kf, kf, (nt hx7), cu22, cu23, cu24, cu25, (nt hx12), (nt hx14), kf, (fun h _ => nt hx13 h), (nt hx15), (fun _ => hg132), (nt hx7), cf2, cf3, (nt hx12), (nt hx14)⟩
   · -- 7: load
    obtain rfl := Option.some.inj hi
    have hx6 := hpre 6 (by kernel_rfl)
    have hx5 := hcl 6 5 (by kernel_rfl) hx6
    have hx4 := hcl 6 4 (by kernel_rfl) hx6
    have hx7 := hSi
    have hx12 := negF hcl 12 7 (by kernel_rfl) hx7
    have hx13 := negF hcl 13 7 (by kernel_rfl) hx7
    have hx14 := negF hcl 14 7 (by kernel_rfl) hx7
    have hx15 := negF hcl 15 7 (by kernel_rfl) hx7
    obtain rfl := cu18 hx4
    obtain rfl := cu19 hx5
    obtain rfl := cu20 hx6
    obtain rfl := cr0_0 hx13
    refine hG (any_step ?_); clear hG G; intro A J hJ
    have hle0 := Fz.le.trans hle0 hle97
    have hs136 := cf0 hx6
    obtain ⟨cs137, hT138, hcl139⟩ := own_elx hMx 0 (T := tyFrame) (xs := zao1) rfl hs136 x3.toNat hqd7_0
    obtain ⟨ao140, cap141, rfl, hs142⟩ := hT138
    refine lc2 hFx 21 6 [.int .i64 qd7_0.ID, .bool qd7_0.Long, .bool qd7_0.Fast, .bool qd7_0.Remote, .int .i64 qd7_0.Size, .slice ao140 qd7_0.Data.length cap141] hcl139 rfl ?_; intro a143 hF144; clear hFx
    refine nl (qnI (hJ _ _ ?_)); clear hJ J
    exact ⟨g51, ao140, cap141, g67, ao74, cap75, g79, g85, ud14, ud15, ud16, ud17, .slice ao1 zao1.length cap2, .int .i64 x3, .pointer (some ⟨g51, x3.toNat * 6, none⟩), .agg #[.int .i64 qd7_0.ID, .bool qd7_0.Long, .bool qd7_0.Fast, .bool qd7_0.Remote, .int .i64 qd7_0.Size, .slice ao140 qd7_0.Data.length cap141], ud22, ud23, ud24, ud25, ud26, ud27, .own tyFrame 24 ao1 cap2 zao1, hle97, hF144.region (by kernel_rfl) (by kernel_rfl), hMx.perm (List.Perm.refl _), cu14, cu15, cu16, cu17, kf, kf, kf, kf, cu22, cu23, cu24, cu25, (nt hx12), (nt hx14), kf, (fun h _ => nt hx13 h), (nt hx15), (fun _ => hs136), (fun _ => hs142), cf2, cf3, (nt hx12), (nt hx14)⟩
   · -- 8: move
    obtain rfl := Option.some.inj hi
    have hx8 := hSi
    have hx10 := negF hcl 10 8 (by kernel_rfl) hx8
    have hx11 := negF hcl 11 10 (by kernel_rfl) hx10
    have hx12 := negF hcl 12 11 (by kernel_rfl) hx11
    have hx13 := negF hcl 13 11 (by kernel_rfl) hx11
    have hx14 := negF hcl 14 8 (by kernel_rfl) hx8
    have hx15 := negF hcl 15 8 (by kernel_rfl) hx8
    obtain rfl := cr0_0 hx13
    refine hG (any_step ?_); clear hG G; intro A J hJ
    have hle0 := Fz.le.trans hle0 hle97
    refine s1 hFx 22 (.slice ao1 zao1.length cap2) ?_; intro a146 hF147; clear hFx
    refine nl (qnI (hJ _ _ ?_)); clear hJ J
    exact ⟨g51, ao58, cap59, g67, ao74, cap75, g79, g85, ud14, ud15, ud16, ud17, ud18, ud19, ud20, ud21, .slice ao1 zao1.length cap2, ud23, ud24, ud25, ud26, ud27, .own tyFrame 24 ao1 cap2 zao1, hle97, hF147.region (by kernel_rfl) (by kernel_rfl), hMx.perm (List.Perm.refl _), cu14, cu15, cu16, cu17, cu18, cu19, cu20, cu21, kf, cu23, (nt hx10), (nt hx11), (nt hx12), (nt hx14), kf, (fun h _ => nt hx13 h), (nt hx15), cf0, cf1, (nt hx10), (nt hx11), (nt hx12), (nt hx14)⟩
   · -- 9: move
    obtain rfl := Option.some.inj hi
    have hx9 := hSi
    have hx10 := negF hcl 10 9 (by kernel_rfl) hx9
    have hx11 := negF hcl 11 10 (by kernel_rfl) hx10
    have hx12 := negF hcl 12 11 (by kernel_rfl) hx11
    have hx13 := negF hcl 13 11 (by kernel_rfl) hx11
    have hx14 := negF hcl 14 9 (by kernel_rfl) hx9
    have hx15 := negF hcl 15 9 (by kernel_rfl) hx9
    obtain rfl := cr0_0 hx13
    refine hG (any_step ?_); clear hG G; intro A J hJ
    have hle0 := Fz.le.trans hle0 hle97
    refine s1 hFx 23 (.int .i64 x2) ?_; intro a149 hF150; clear hFx
    refine nl (qnI (hJ _ _ ?_)); clear hJ J
    exact ⟨g51, ao58, cap59, g67, ao74, cap75, g79, g85, ud14, ud15, ud16, ud17, ud18, ud19, ud20, ud21, ud22, .int .i64 x2, ud24, ud25, ud26, ud27, .own tyFrame 24 ao1 cap2 zao1, hle97, hF150.region (by kernel_rfl) (by kernel_rfl), hMx.perm (List.Perm.refl _), cu14, cu15, cu16, cu17, cu18, cu19, cu20, cu21, cu22, kf, (nt hx10), (nt hx11), (nt hx12), (nt hx14), kf, (fun h _ => nt hx13 h), (nt hx15), cf0, cf1, (nt hx10), (nt hx11), (nt hx12), (nt hx14)⟩
   · -- 10: indexAddr
    obtain rfl := Option.some.inj hi
    have hx9 := hpre 9 (by kernel_rfl)
    have hx8 := hpre 8 (by kernel_rfl)
    have hx10 := hSi
    have hx11 := negF hcl 11 10 (by kernel_rfl) hx10
    have hx12 := negF hcl 12 11 (by kernel_rfl) hx11
    have hx13 := negF hcl 13 11 (by kernel_rfl) hx11
    have hx14 := negF hcl 14 10 (by kernel_rfl) hx10
    have hx15 := negF hcl 15 10 (by kernel_rfl) hx10
    obtain rfl := cu22 hx8
    obtain rfl := cu23 hx9
    obtain rfl := cr0_0 hx13
    refine hG (any_step ?_); clear hG G; intro A J hJ
    have hle0 := Fz.le.trans hle0 hle97
    refine ixo hFx hMx 0 (T := tyFrame) (xs := zao1) x2 (by simpa only [List.length_set] using hcd10_0) (k := .i64) (e := 24) (bytes := 48) (nog rfl _) rfl (by kernel_rfl) rfl (by kernel_rfl) (by kernel_rfl) rfl (by kernel_rfl) ?_; intro g152 a154 hg153 hF155; clear hFx
    refine nl (qnI (hJ _ _ ?_)); clear hJ J
    exact ⟨g51, ao58, cap59, g152, ao74, cap75, g79, g85, ud14, ud15, ud16, ud17, ud18, ud19, ud20, ud21, .slice ao1 zao1.length cap2, .int .i64 x2, .pointer (some ⟨g152, x2.toNat * 6, none⟩), ud25, ud26, ud27, .own tyFrame 24 ao1 cap2 zao1, hle97, hF155.region (by kernel_rfl) (by kernel_rfl), hMx.perm (List.Perm.refl _), cu14, cu15, cu16, cu17, cu18, cu19, cu20, cu21, kf, kf, kf, (nt hx11), (nt hx12), (nt hx14), kf, (fun h _ => nt hx13 h), (nt hx15), cf0, cf1, (fun _ => hg153), (nt hx11), (nt hx12), (nt hx14)⟩
   · -- 11: load
    obtain rfl := Option.some.inj hi
    have hx10 := hpre 10 (by kernel_rfl)
    have hx9 := hcl 10 9 (by kernel_rfl) hx10
    have hx8 := hcl 10 8 (by kernel_rfl) hx10
    have hx11 := hSi
    have hx12 := negF hcl 12 11 (by kernel_rfl) hx11
    have hx13 := negF hcl 13 11 (by kernel_rfl) hx11
    have hx14 := negF hcl 14 11 (by kernel_rfl) hx11
    have hx15 := negF hcl 15 11 (by kernel_rfl) hx11
    obtain rfl := cu22 hx8
    obtain rfl := cu23 hx9
    obtain rfl := cu24 hx10
    obtain rfl := cr0_0 hx13
    refine hG (any_step ?_); clear hG G; intro A J hJ
    have hle0 := Fz.le.trans hle0 hle97
    have hs157 := cf2 hx10
    obtain ⟨cs158, hT159, hcl160⟩ := own_elx hMx 0 (T := tyFrame) (xs := zao1) rfl hs157 x2.toNat hqd11_0
    obtain ⟨ao161, cap162, rfl, hs163⟩ := hT159
    refine lc2 hFx 25 6 [.int .i64 qd11_0.ID, .bool qd11_0.Long, .bool qd11_0.Fast, .bool qd11_0.Remote, .int .i64 qd11_0.Size, .slice ao161 qd11_0.Data.length cap162] hcl160 rfl ?_; intro a164 hF165; clear hFx
    refine nl (qnI (hJ _ _ ?_)); clear hJ J
    exact ⟨g51, ao58, cap59, g67, ao161, cap162, g79, g85, ud14, ud15, ud16, ud17, ud18, ud19, ud20, ud21, .slice ao1 zao1.length cap2, .int .i64 x2, .pointer (some ⟨g67, x2.toNat * 6, none⟩), .agg #[.int .i64 qd11_0.ID, .bool qd11_0.Long, .bool qd11_0.Fast, .bool qd11_0.Remote, .int .i64 qd11_0.Size, .slice ao161 qd11_0.Data.length cap162], ud26, ud27, .own tyFrame 24 ao1 cap2 zao1, hle97, hF165.region (by kernel_rfl) (by kernel_rfl), hMx.perm (List.Perm.refl _), cu14, cu15, cu16, cu17, cu18, cu19, cu20, cu21, kf, kf, kf, kf, (nt hx12), (nt hx14), kf, (fun h _ => nt hx13 h), (nt hx15), cf0, cf1, (fun _ => hs157), (fun _ => hs163), (nt hx12), (nt hx14)⟩
   · -- 12: indexAddr
    obtain rfl := Option.some.inj hi
    have hx11 := hpre 11 (by kernel_rfl)
    have hx7 := hpre 7 (by kernel_rfl)
    have hx6 := hpre 6 (by kernel_rfl)
    have hx5 := hpre 5 (by kernel_rfl)
    have hx4 := hpre 4 (by kernel_rfl)
    have hx1 := hpre 1 (by kernel_rfl)
    have hx0 := hpre 0 (by kernel_rfl)
    have hx10 := hcl 11 10 (by kernel_rfl) hx11
    have hx9 := hcl 10 9 (by kernel_rfl) hx10
    have hx8 := hcl 10 8 (by kernel_rfl) hx10
    have hx12 := hSi
    have hx13 := negF hcl 13 12 (by kernel_rfl) hx12
    have hx14 := negF hcl 14 12 (by kernel_rfl) hx12
    have hx15 := negF hcl 15 12 (by kernel_rfl) hx12
    obtain rfl := cu14 hx0
    obtain rfl := cu15 hx1
    obtain rfl := cu18 hx4
    obtain rfl := cu19 hx5
    obtain rfl := cu20 hx6
    obtain rfl := cu21 hx7
    obtain rfl := cu22 hx8
    obtain rfl := cu23 hx9
    obtain rfl := cu24 hx10
    obtain rfl := cu25 hx11
    obtain rfl := cr0_0 hx13
    refine hG (any_step ?_); clear hG G; intro A J hJ
    have hle0 := Fz.le.trans hle0 hle97
    have hs167 := cf0 hx6
    have hs168 := cf1 hx7
    have hs169 := cf2 hx10
    have hs170 := cf3 hx11
    refine ixo hFx hMx 0 (T := tyFrame) (xs := zao1) x2 (by simpa only [List.length_set] using hcd12_0) (k := .i64) (e := 24) (bytes := 48) (nog rfl _) rfl (by kernel_rfl) rfl (by kernel_rfl) (by kernel_rfl) rfl (by kernel_rfl) ?_; intro g171 a173 hg172 hF174; clear hFx
    refine nl (qnI (hJ _ _ ?_)); clear hJ J
    exact ⟨g51, ao58, cap59, g67, ao74, cap75, g171, g85, .slice ao1 zao1.length cap2, .int .i64 x2, ud16, ud17, .slice ao1 zao1.length cap2, .int .i64 x3, .pointer (some ⟨g51, x3.toNat * 6, none⟩), .agg #[.int .i64 qd7_0.ID, .bool qd7_0.Long, .bool qd7_0.Fast, .bool qd7_0.Remote, .int .i64 qd7_0.Size, .slice ao58 qd7_0.Data.length cap59], .slice ao1 zao1.length cap2, .int .i64 x2, .pointer (some ⟨g67, x2.toNat * 6, none⟩), .agg #[.int .i64 qd11_0.ID, .bool qd11_0.Long, .bool qd11_0.Fast, .bool qd11_0.Remote, .int .i64 qd11_0.Size, .slice ao74 qd11_0.Data.length cap75], .pointer (some ⟨g171, x2.toNat * 6, none⟩), ud27, .own tyFrame 24 ao1 cap2 zao1, hle97, hF174.region (by kernel_rfl) (by kernel_rfl), hMx.perm (List.Perm.refl _), kf, kf, cu16, cu17, kf, kf, kf, kf, kf, kf, kf, kf, kf, (nt hx14), kf, (fun h _ => nt hx13 h), (nt hx15), (fun _ => hs167), (fun _ => hs168), (fun _ => hs169), (fun _ => hs170), (fun _ => hg172), (nt hx14)⟩
   · -- 13: store
    obtain rfl := Option.some.inj hi
    have hx12 := hpre 12 (by kernel_rfl)
    have hx11 := hpre 11 (by kernel_rfl)
    have hx7 := hpre 7 (by kernel_rfl)
    have hx6 := hpre 6 (by kernel_rfl)
    have hx5 := hpre 5 (by kernel_rfl)
    have hx4 := hpre 4 (by kernel_rfl)
    have hx1 := hpre 1 (by kernel_rfl)
    have hx0 := hpre 0 (by kernel_rfl)
    have hx10 := hcl 11 10 (by kernel_rfl) hx11
    have hx9 := hcl 10 9 (by kernel_rfl) hx10
    have hx8 := hcl 10 8 (by kernel_rfl) hx10
    have hx13 := hSi
    have hx14 := negF hcl 14 13 (by kernel_rfl) hx13
    have hx15 := negF hcl 15 13 (by kernel_rfl) hx13
    obtain rfl := cu14 hx0
    obtain rfl := cu15 hx1
    obtain rfl := cu18 hx4
    obtain rfl := cu19 hx5
    obtain rfl := cu20 hx6
    obtain rfl := cu21 hx7
    obtain rfl := cu22 hx8
    obtain rfl := cu23 hx9
    obtain rfl := cu24 hx10
    obtain rfl := cu25 hx11
    obtain rfl := cu26 hx12
    obtain rfl := cr0_0 hx13
    refine hG (any_step ?_); clear hG G; intro A J hJ
    have hle0 := Fz.le.trans hle0 hle97
    have hs176 := cf0 hx6
    have hs177 := cf1 hx7
    have hs178 := cf2 hx10
    have hs179 := cf3 hx11
    have hs180 := cf4 hx12
    refine sox hFx hMx 0 hs180 (T := tyFrame) (xs := zao1) x2.toNat qd7_0 (u := .agg #[.int .i64 qd7_0.ID, .bool qd7_0.Long, .bool qd7_0.Fast, .bool qd7_0.Remote, .int .i64 qd7_0.Size, .slice ao58 qd7_0.Data.length cap59]) (nog rfl _) rfl rfl (by kernel_rfl) rfl (by kernel_rfl) rfl (by kernel_rfl) (by simp only [List.length_set] at *; omega) ⟨ao58, cap59, rfl, hs177⟩ ?_; intro wd181 hM182; clear hMx
    refine nl (qnI (hJ _ _ ?_)); clear hJ J
    exact ⟨g51, ao58, cap59, g67, ao74, cap75, g79, g85, .slice ao1 zao1.length cap2, .int .i64 x2, ud16, ud17, .slice ao1 zao1.length cap2, .int .i64 x3, .pointer (some ⟨g51, x3.toNat * 6, none⟩), .agg #[.int .i64 qd7_0.ID, .bool qd7_0.Long, .bool qd7_0.Fast, .bool qd7_0.Remote, .int .i64 qd7_0.Size, .slice ao58 qd7_0.Data.length cap59], .slice ao1 zao1.length cap2, .int .i64 x2, .pointer (some ⟨g67, x2.toNat * 6, none⟩), .agg #[.int .i64 qd11_0.ID, .bool qd11_0.Long, .bool qd11_0.Fast, .bool qd11_0.Remote, .int .i64 qd11_0.Size, .slice ao74 qd11_0.Data.length cap75], .pointer (some ⟨g79, x2.toNat * 6, none⟩), ud27, .own tyFrame 24 ao1 cap2 (zao1.set x2.toNat qd7_0), hle97, hFx.region (by kernel_rfl) (by kernel_rfl), hM182.perm (List.Perm.refl _), kf, kf, cu16, cu17, kf, kf, kf, kf, kf, kf, kf, kf, kf, (nt hx14), nu, kf2, (nt hx15), (fun _ => hs176), (fun _ => hs177), (fun _ => hs178), (fun _ => hs179), (fun _ => hs180), (nt hx14)⟩
   · -- 14: indexAddr
    obtain rfl := Option.some.inj hi
    have hx13 := hpre 13 (by kernel_rfl)
    have hx12 := hpre 12 (by kernel_rfl)
    have hx11 := hpre 11 (by kernel_rfl)
    have hx10 := hpre 10 (by kernel_rfl)
    have hx9 := hpre 9 (by kernel_rfl)
    have hx8 := hpre 8 (by kernel_rfl)
    have hx7 := hpre 7 (by kernel_rfl)
    have hx6 := hpre 6 (by kernel_rfl)
    have hx5 := hpre 5 (by kernel_rfl)
    have hx4 := hpre 4 (by kernel_rfl)
    have hx3 := hpre 3 (by kernel_rfl)
    have hx2 := hpre 2 (by kernel_rfl)
    have hx1 := hpre 1 (by kernel_rfl)
    have hx0 := hpre 0 (by kernel_rfl)
    have hx14 := hSi
    have hx15 := negF hcl 15 14 (by kernel_rfl) hx14
    obtain rfl := cu14 hx0
    obtain rfl := cu15 hx1
    obtain rfl := cu16 hx2
    obtain rfl := cu17 hx3
    obtain rfl := cu18 hx4
    obtain rfl := cu19 hx5
    obtain rfl := cu20 hx6
    obtain rfl := cu21 hx7
    obtain rfl := cu22 hx8
    obtain rfl := cu23 hx9
    obtain rfl := cu24 hx10
    obtain rfl := cu25 hx11
    obtain rfl := cu26 hx12
    obtain rfl := cr0_1 hx13 hx15
    refine hG (any_step ?_); clear hG G; intro A J hJ
    have hle0 := Fz.le.trans hle0 hle97
    have hs184 := cf0 hx6
    have hs185 := cf1 hx7
    have hs186 := cf2 hx10
    have hs187 := cf3 hx11
    have hs188 := cf4 hx12
    have hl189 : (zao1.set x2.toNat qd7_0).length = zao1.length := by simp; try omega
    have hF190 : Fr 28 [] [⟨0, [], .slice ao1 (zao1.set x2.toNat qd7_0).length cap2⟩, ⟨2, [], .int .i64 x2⟩, ⟨3, [], .int .i64 x3⟩, ⟨14, [], .slice ao1 (zao1.set x2.toNat qd7_0).length cap2⟩, ⟨15, [], .int .i64 x2⟩, ⟨16, [], .slice ao1 (zao1.set x2.toNat qd7_0).length cap2⟩, ⟨17, [], .int .i64 x3⟩, ⟨18, [], .slice ao1 (zao1.set x2.toNat qd7_0).length cap2⟩, ⟨19, [], .int .i64 x3⟩, ⟨20, [], .pointer (some ⟨g51, x3.toNat * 6, none⟩)⟩, ⟨21, [], .agg #[.int .i64 qd7_0.ID, .bool qd7_0.Long, .bool qd7_0.Fast, .bool qd7_0.Remote, .int .i64 qd7_0.Size, .slice ao58 qd7_0.Data.length cap59]⟩, ⟨22, [], .slice ao1 (zao1.set x2.toNat qd7_0).length cap2⟩, ⟨23, [], .int .i64 x2⟩, ⟨24, [], .pointer (some ⟨g67, x2.toNat * 6, none⟩)⟩, ⟨25, [], .agg #[.int .i64 qd11_0.ID, .bool qd11_0.Long, .bool qd11_0.Fast, .bool qd11_0.Remote, .int .i64 qd11_0.Size, .slice ao74 qd11_0.Data.length cap75]⟩, ⟨26, [], .pointer (some ⟨g79, x2.toNat * 6, none⟩)⟩, ⟨27, [], ud27⟩] a := by rw [hl189]; exact hFx.region (by kernel_rfl) (by kernel_rfl)
    clear hFx
    refine ixo hF190 hMx 0 (T := tyFrame) (xs := zao1.set x2.toNat qd7_0) x3 (by simpa only [List.length_set] using hcd14_0) (k := .i64) (e := 24) (bytes := 48) (nog rfl _) rfl (by kernel_rfl) rfl (by kernel_rfl) (by kernel_rfl) rfl (by kernel_rfl) ?_; intro g191 a193 hg192 hF194; clear hF190
    refine nl (qnI (hJ _ _ ?_)); clear hJ J
    rw [hl189] at hF194
    exact ⟨g51, ao58, cap59, g67, ao74, cap75, g79, g191, .slice ao1 zao1.length cap2, .int .i64 x2, .slice ao1 zao1.length cap2, .int .i64 x3, .slice ao1 zao1.length cap2, .int .i64 x3, .pointer (some ⟨g51, x3.toNat * 6, none⟩), .agg #[.int .i64 qd7_0.ID, .bool qd7_0.Long, .bool qd7_0.Fast, .bool qd7_0.Remote, .int .i64 qd7_0.Size, .slice ao58 qd7_0.Data.length cap59], .slice ao1 zao1.length cap2, .int .i64 x2, .pointer (some ⟨g67, x2.toNat * 6, none⟩), .agg #[.int .i64 qd11_0.ID, .bool qd11_0.Long, .bool qd11_0.Fast, .bool qd11_0.Remote, .int .i64 qd11_0.Size, .slice ao74 qd11_0.Data.length cap75], .pointer (some ⟨g79, x2.toNat * 6, none⟩), .pointer (some ⟨g191, x3.toNat * 6, none⟩), .own tyFrame 24 ao1 cap2 (zao1.set x2.toNat qd7_0), hle97, hF194.region (by kernel_rfl) (by kernel_rfl), hMx.perm (List.Perm.refl _), (fun _ => by first | rfl | rw [hl189]), (fun _ => by first | rfl | rw [hl189]), (fun _ => by first | rfl | rw [hl189]), (fun _ => by first | rfl | rw [hl189]), (fun _ => by first | rfl | rw [hl189]), (fun _ => by first | rfl | rw [hl189]), (fun _ => by first | rfl | rw [hl189]), (fun _ => by first | rfl | rw [hl189]), (fun _ => by first | rfl | rw [hl189]), (fun _ => by first | rfl | rw [hl189]), (fun _ => by first | rfl | rw [hl189]), (fun _ => by first | rfl | rw [hl189]), (fun _ => by first | rfl | rw [hl189]), (fun _ => by first | rfl | rw [hl189]), (tn hx13), kf2, (nt hx15), (fun _ => hs184), (fun _ => hs185), (fun _ => hs186), (fun _ => hs187), (fun _ => hs188), (fun _ => hg192)⟩
   · -- 15: store
    obtain rfl := Option.some.inj hi
    have hx14 := hpre 14 (by kernel_rfl)
    have hx13 := hpre 13 (by kernel_rfl)
    have hx12 := hpre 12 (by kernel_rfl)
    have hx11 := hpre 11 (by kernel_rfl)
    have hx10 := hpre 10 (by kernel_rfl)
    have hx9 := hpre 9 (by kernel_rfl)
    have hx8 := hpre 8 (by kernel_rfl)
    have hx7 := hpre 7 (by kernel_rfl)
    have hx6 := hpre 6 (by kernel_rfl)
    have hx5 := hpre 5 (by kernel_rfl)
    have hx4 := hpre 4 (by kernel_rfl)
    have hx3 := hpre 3 (by kernel_rfl)
    have hx2 := hpre 2 (by kernel_rfl)
    have hx1 := hpre 1 (by kernel_rfl)
    have hx0 := hpre 0 (by kernel_rfl)
    have hx15 := hSi
    obtain rfl := cu14 hx0
    obtain rfl := cu15 hx1
    obtain rfl := cu16 hx2
    obtain rfl := cu17 hx3
    obtain rfl := cu18 hx4
    obtain rfl := cu19 hx5
    obtain rfl := cu20 hx6
    obtain rfl := cu21 hx7
    obtain rfl := cu22 hx8
    obtain rfl := cu23 hx9
    obtain rfl := cu24 hx10
    obtain rfl := cu25 hx11
    obtain rfl := cu26 hx12
    obtain rfl := cu27 hx14
    obtain rfl := cr0_1 hx13 hx15
    refine hG (any_step ?_); clear hG G; intro A J hJ
    have hle0 := Fz.le.trans hle0 hle97
    have hs196 := cf0 hx6
    have hs197 := cf1 hx7
    have hs198 := cf2 hx10
    have hs199 := cf3 hx11
    have hs200 := cf4 hx12
    have hs201 := cf5 hx14
    have hl202 : (zao1.set x2.toNat qd7_0).length = zao1.length := by simp; try omega
    have hF203 : Fr 28 [] [⟨0, [], .slice ao1 (zao1.set x2.toNat qd7_0).length cap2⟩, ⟨2, [], .int .i64 x2⟩, ⟨3, [], .int .i64 x3⟩, ⟨14, [], .slice ao1 (zao1.set x2.toNat qd7_0).length cap2⟩, ⟨15, [], .int .i64 x2⟩, ⟨16, [], .slice ao1 (zao1.set x2.toNat qd7_0).length cap2⟩, ⟨17, [], .int .i64 x3⟩, ⟨18, [], .slice ao1 (zao1.set x2.toNat qd7_0).length cap2⟩, ⟨19, [], .int .i64 x3⟩, ⟨20, [], .pointer (some ⟨g51, x3.toNat * 6, none⟩)⟩, ⟨21, [], .agg #[.int .i64 qd7_0.ID, .bool qd7_0.Long, .bool qd7_0.Fast, .bool qd7_0.Remote, .int .i64 qd7_0.Size, .slice ao58 qd7_0.Data.length cap59]⟩, ⟨22, [], .slice ao1 (zao1.set x2.toNat qd7_0).length cap2⟩, ⟨23, [], .int .i64 x2⟩, ⟨24, [], .pointer (some ⟨g67, x2.toNat * 6, none⟩)⟩, ⟨25, [], .agg #[.int .i64 qd11_0.ID, .bool qd11_0.Long, .bool qd11_0.Fast, .bool qd11_0.Remote, .int .i64 qd11_0.Size, .slice ao74 qd11_0.Data.length cap75]⟩, ⟨26, [], .pointer (some ⟨g79, x2.toNat * 6, none⟩)⟩, ⟨27, [], .pointer (some ⟨g85, x3.toNat * 6, none⟩)⟩] a := by rw [hl202]; exact hFx.region (by kernel_rfl) (by kernel_rfl)
    clear hFx
    refine sox hF203 hMx 0 hs201 (T := tyFrame) (xs := zao1.set x2.toNat qd7_0) x3.toNat qd11_0 (u := .agg #[.int .i64 qd11_0.ID, .bool qd11_0.Long, .bool qd11_0.Fast, .bool qd11_0.Remote, .int .i64 qd11_0.Size, .slice ao74 qd11_0.Data.length cap75]) (nog rfl _) rfl rfl (by kernel_rfl) rfl (by kernel_rfl) rfl (by kernel_rfl) (by simp only [List.length_set] at *; omega) ⟨ao74, cap75, rfl, hs199⟩ ?_; intro wd204 hM205; clear hMx
    refine nl (qnI (hJ _ _ ?_)); clear hJ J
    rw [hl202] at hF203
    exact ⟨g51, ao58, cap59, g67, ao74, cap75, g79, g85, .slice ao1 zao1.length cap2, .int .i64 x2, .slice ao1 zao1.length cap2, .int .i64 x3, .slice ao1 zao1.length cap2, .int .i64 x3, .pointer (some ⟨g51, x3.toNat * 6, none⟩), .agg #[.int .i64 qd7_0.ID, .bool qd7_0.Long, .bool qd7_0.Fast, .bool qd7_0.Remote, .int .i64 qd7_0.Size, .slice ao58 qd7_0.Data.length cap59], .slice ao1 zao1.length cap2, .int .i64 x2, .pointer (some ⟨g67, x2.toNat * 6, none⟩), .agg #[.int .i64 qd11_0.ID, .bool qd11_0.Long, .bool qd11_0.Fast, .bool qd11_0.Remote, .int .i64 qd11_0.Size, .slice ao74 qd11_0.Data.length cap75], .pointer (some ⟨g79, x2.toNat * 6, none⟩), .pointer (some ⟨g85, x3.toNat * 6, none⟩), .own tyFrame 24 ao1 cap2 ((zao1.set x2.toNat qd7_0).set x3.toNat qd11_0), hle97, hF203.region (by kernel_rfl) (by kernel_rfl), hM205.perm (List.Perm.refl _), (fun _ => by first | rfl | rw [hl202]), (fun _ => by first | rfl | rw [hl202]), (fun _ => by first | rfl | rw [hl202]), (fun _ => by first | rfl | rw [hl202]), (fun _ => by first | rfl | rw [hl202]), (fun _ => by first | rfl | rw [hl202]), (fun _ => by first | rfl | rw [hl202]), (fun _ => by first | rfl | rw [hl202]), (fun _ => by first | rfl | rw [hl202]), (fun _ => by first | rfl | rw [hl202]), (fun _ => by first | rfl | rw [hl202]), (fun _ => by first | rfl | rw [hl202]), (fun _ => by first | rfl | rw [hl202]), (fun _ => by first | rfl | rw [hl202]), (tn hx13), (fun _ => nu), kf, (fun _ => hs196), (fun _ => hs197), (fun _ => hs198), (fun _ => hs199), (fun _ => hs200), (fun _ => hs201)⟩
  case hE =>
   intro S hS a207 wd208 hI; refine Go.Sy.hid ?_; intro G hG; obtain ⟨g51, hI⟩ := hI; obtain ⟨ao58, hI⟩ := hI; obtain ⟨cap59, hI⟩ := hI; obtain ⟨g67, hI⟩ := hI; obtain ⟨ao74, hI⟩ := hI; obtain ⟨cap75, hI⟩ := hI; obtain ⟨g79, hI⟩ := hI; obtain ⟨g85, hI⟩ := hI; obtain ⟨ud14, hI⟩ := hI; obtain ⟨ud15, hI⟩ := hI; obtain ⟨ud16, hI⟩ := hI; obtain ⟨ud17, hI⟩ := hI; obtain ⟨ud18, hI⟩ := hI; obtain ⟨ud19, hI⟩ := hI; obtain ⟨ud20, hI⟩ := hI; obtain ⟨ud21, hI⟩ := hI; obtain ⟨ud22, hI⟩ := hI; obtain ⟨ud23, hI⟩ := hI; obtain ⟨ud24, hI⟩ := hI; obtain ⟨ud25, hI⟩ := hI; obtain ⟨ud26, hI⟩ := hI; obtain ⟨ud27, hI⟩ := hI; obtain ⟨rh0, hI⟩ := hI; obtain ⟨hle97, hI⟩ := hI; obtain ⟨hFx, hI⟩ := hI; obtain ⟨hMx, hI⟩ := hI; obtain ⟨cu14, hI⟩ := hI; obtain ⟨cu15, hI⟩ := hI; obtain ⟨cu16, hI⟩ := hI; obtain ⟨cu17, hI⟩ := hI; obtain ⟨cu18, hI⟩ := hI; obtain ⟨cu19, hI⟩ := hI; obtain ⟨cu20, hI⟩ := hI; obtain ⟨cu21, hI⟩ := hI; obtain ⟨cu22, hI⟩ := hI; obtain ⟨cu23, hI⟩ := hI; obtain ⟨cu24, hI⟩ := hI; obtain ⟨cu25, hI⟩ := hI; obtain ⟨cu26, hI⟩ := hI; obtain ⟨cu27, hI⟩ := hI; obtain ⟨cr0_0, hI⟩ := hI; obtain ⟨cr0_1, hI⟩ := hI; obtain ⟨cr0_2, hI⟩ := hI; obtain ⟨cf0, hI⟩ := hI; obtain ⟨cf1, hI⟩ := hI; obtain ⟨cf2, hI⟩ := hI; obtain ⟨cf3, hI⟩ := hI; obtain ⟨cf4, hI⟩ := hI; have cf5 := hI; clear hI; refine hG ?_; clear hG G
   obtain rfl := cu14 (hS 0 (by decide))
   obtain rfl := cu15 (hS 1 (by decide))
   obtain rfl := cu16 (hS 2 (by decide))
   obtain rfl := cu17 (hS 3 (by decide))
   obtain rfl := cu18 (hS 4 (by decide))
   obtain rfl := cu19 (hS 5 (by decide))
   obtain rfl := cu20 (hS 6 (by decide))
   obtain rfl := cu21 (hS 7 (by decide))
   obtain rfl := cu22 (hS 8 (by decide))
   obtain rfl := cu23 (hS 9 (by decide))
   obtain rfl := cu24 (hS 10 (by decide))
   obtain rfl := cu25 (hS 11 (by decide))
   obtain rfl := cu26 (hS 12 (by decide))
   obtain rfl := cu27 (hS 14 (by decide))
   obtain rfl := cr0_2 (hS 15 (by decide))
   have hle0 := Fz.le.trans hle0 hle97
   have hs209 := cf0 (hS 6 (by decide))
   have hs210 := cf1 (hS 7 (by decide))
   have hs211 := cf2 (hS 10 (by decide))
   have hs212 := cf3 (hS 11 (by decide))
   have hs213 := cf4 (hS 12 (by decide))
   have hs214 := cf5 (hS 14 (by decide))
   have hl215 : ((zao1.set x2.toNat qd7_0).set x3.toNat qd11_0).length = zao1.length := by simp; try omega
   have hF216 : Fr 28 [] [⟨0, [], .slice ao1 ((zao1.set x2.toNat qd7_0).set x3.toNat qd11_0).length cap2⟩, ⟨2, [], .int .i64 x2⟩, ⟨3, [], .int .i64 x3⟩, ⟨14, [], .slice ao1 ((zao1.set x2.toNat qd7_0).set x3.toNat qd11_0).length cap2⟩, ⟨15, [], .int .i64 x2⟩, ⟨16, [], .slice ao1 ((zao1.set x2.toNat qd7_0).set x3.toNat qd11_0).length cap2⟩, ⟨17, [], .int .i64 x3⟩, ⟨18, [], .slice ao1 ((zao1.set x2.toNat qd7_0).set x3.toNat qd11_0).length cap2⟩, ⟨19, [], .int .i64 x3⟩, ⟨20, [], .pointer (some ⟨g51, x3.toNat * 6, none⟩)⟩, ⟨21, [], .agg #[.int .i64 qd7_0.ID, .bool qd7_0.Long, .bool qd7_0.Fast, .bool qd7_0.Remote, .int .i64 qd7_0.Size, .slice ao58 qd7_0.Data.length cap59]⟩, ⟨22, [], .slice ao1 ((zao1.set x2.toNat qd7_0).set x3.toNat qd11_0).length cap2⟩, ⟨23, [], .int .i64 x2⟩, ⟨24, [], .pointer (some ⟨g67, x2.toNat * 6, none⟩)⟩, ⟨25, [], .agg #[.int .i64 qd11_0.ID, .bool qd11_0.Long, .bool qd11_0.Fast, .bool qd11_0.Remote, .int .i64 qd11_0.Size, .slice ao74 qd11_0.Data.length cap75]⟩, ⟨26, [], .pointer (some ⟨g79, x2.toNat * 6, none⟩)⟩, ⟨27, [], .pointer (some ⟨g85, x3.toNat * 6, none⟩)⟩] a207 := by rw [hl215]; exact hFx.region (by kernel_rfl) (by kernel_rfl)
   clear hFx
   refine ibn ?_
   refine thn ?_
   have hF217 : Fr 28 [] [⟨0, [], .slice ao1 ((zao1.set x2.toNat qd7_0).set x3.toNat qd11_0).length cap2⟩, ⟨2, [], .int .i64 x2⟩, ⟨3, [], .int .i64 x3⟩] a207 := hF216.region (by kernel_rfl) (by kernel_rfl); clear hF216
   refine rgH ?_; intro hQ218Q hQ218
   refine s1 hF217 10 (.int .i64 x2) ?_; intro a219 hF220; clear hF217
   refine s1 hF220 11 (.int .i64 (w64 (x2 + 1))) ?_; intro a221 hF222; clear hF220
   refine s1 hF222 12 (.int .i64 x3) ?_; intro a223 hF224; clear hF222
   refine s1 hF224 13 (.int .i64 (w64 (x3 - 1))) ?_; intro a225 hF226; clear hF224
   refine s1 hF226 2 (.int .i64 (w64 (x2 + 1))) ?_; intro a227 hF228; clear hF226
   refine s1 hF228 3 (.int .i64 (w64 (x3 - 1))) ?_; intro a229 hF230; clear hF228
   refine nlH (hQ218 _ _ ?_); clear hQ218 hQ218Q
   refine rd ?_
   exact ⟨⟨w64 (x2 + 1), w64 (x3 - 1), (zao1.set x2.toNat qd7_0).set x3.toNat qd11_0⟩, hp96.1, hp96.2, (hF230.region (by kernel_rfl) (by kernel_rfl)).anyβ _ (by kernel_rfl), hMx.keep (List.Sublist.cons_cons _ (List.Sublist.refl _))⟩
 · -- no
  have hp231 := hp28.2 hb36; clear hp28
  refine wp_exit ?_
  refine thx ?_
  refine thx ?_
  refine ibx ?_
  have hc232 := hp231.1; have hp233 := hp231.2; clear hp231
  refine rN (fn := Tryd.f20) (v := .tuple #[]) hF35 (re0 hF35 (fn := Tryd.f20) rfl) ?_
  exact ⟨zao1, Z, rfl, hp233, hle0, hc232, hM27.keep (List.Sublist.cons_cons _ (List.Sublist.refl _))⟩

set_option maxRecDepth 100000 in
set_option maxHeartbeats 0 in
theorem irev_walk (u0 : List Int) (ao1 : Option Addr) (cap2 : Nat) (B : Nat) (w0 : World) (Z0 : Fz) (Rr : List Res) (Z : Fz) (w : World) (hM0 : Mem B [] w0 Z0 ((.own (tyInt .i64) 3 ao1 cap2 u0) :: Rr) Z w) (hZ : Z.on w) {K : (List Int) → Prop} (hp : irev_vc u0 K) : Calls Tryd.prog 22 #[.slice ao1 u0.length cap2] w fun e w' => ∃ (r : (List Int)) (Z' : Fz), e = .returned (.tuple #[]) ∧ K r ∧ Fz.le Z Z' ∧ (r.length = u0.length) ∧ Mem B [] w0 Z0 ((.own (tyInt .i64) 3 ao1 cap2 r) :: Rr) Z' w' := by
 refine enter0 Tryd.func22 rfl rfl (by kernel_rfl) ?_; intro a0 hF0; have hle0 := Fz.le.refl Z
 have hp3 := hp (hM0.ownSmall 0 rfl); clear hp
 refine sqH ?_; intro hQ4Q hQ4
 refine s1 hF0 4 (.slice ao1 u0.length cap2) ?_; intro a5 hF6; clear hF0
 refine s1 hF6 5 (.int .i64 (u0.length : Int)) ?_; intro a7 hF8; clear hF6
 refine s1 hF8 6 (.int .i64 (w64 ((u0.length : Int) - 1))) ?_; intro a9 hF10; clear hF8
 refine s1 hF10 2 (.int .i64 0) ?_; intro a11 hF12; clear hF10
 refine s1 hF12 3 (.int .i64 (w64 ((u0.length : Int) - 1))) ?_; intro a13 hF14; clear hF12
 refine nlH (hQ4 _ _ ?_); clear hQ4 hQ4Q
 refine wp_block ?_
 have hF15 : Fr 28 [] [⟨0, [], .slice ao1 u0.length cap2⟩, ⟨2, [], .int .i64 0⟩, ⟨3, [], .int .i64 (w64 ((u0.length : Int) - 1))⟩] a13 := hF14.region (by kernel_rfl) (by kernel_rfl); clear hF14
 have hF17 : Fr 28 [] [⟨0, [], .slice ao1 u0.length cap2⟩, ⟨2, [], .int .i64 0⟩, ⟨3, [], .int .i64 (w64 ((u0.length : Int) - 1))⟩] a13 := hF15.region (by kernel_rfl) (by kernel_rfl); clear hF15
 obtain ⟨inv16, mu16, hI20, hr19⟩ := hp3
 refine lp (ι := Int × Int × (List Int)) (fun (s : Int × Int × (List Int)) => [⟨0, [], .slice ao1 s.2.2.length cap2⟩, ⟨2, [], .int .i64 s.1⟩, ⟨3, [], .int .i64 s.2.1⟩]) (fun (s : Int × Int × (List Int)) => ((.own (tyInt .i64) 3 ao1 cap2 s.2.2) :: Rr)) (fun (s : Int × Int × (List Int)) => Z) (fun (s : Int × Int × (List Int)) => inv16 s.1 s.2.1 s.2.2) (fun (s : Int × Int × (List Int)) => mu16 s.1 s.2.1 s.2.2) ⟨0, w64 ((u0.length : Int) - 1), u0⟩ hI20 (by exact hF17.region (by kernel_rfl) (by kernel_rfl)) (by exact hM0) ?_
 rintro ⟨x2, x3, zao1⟩ hI18 a22 wd23 hF24 hM25
 have hF26 : Fr 28 [] [⟨0, [], .slice ao1 zao1.length cap2⟩, ⟨2, [], .int .i64 x2⟩, ⟨3, [], .int .i64 x3⟩] a22 := hF24; clear hF24 hF17
 have hM27 : Mem B [] w0 Z0 ((.own (tyInt .i64) 3 ao1 cap2 zao1) :: Rr) Z wd23 := hM25; clear hM25 hM0
 have hp28 := hr19 x2 x3 zao1 hI18
 refine wp_seq ?_
 refine sqH ?_; intro hQ29Q hQ29
 refine s1 hF26 7 (.int .i64 x2) ?_; intro a30 hF31; clear hF26
 refine s1 hF31 8 (.int .i64 x3) ?_; intro a32 hF33; clear hF31
 refine s1 hF33 9 (.bool (decide (x2 < x3))) ?_; intro a34 hF35; clear hF33
 refine nlH (hQ29 _ _ ?_); clear hQ29 hQ29Q
 refine cd hF35 (t := decide (x2 < x3)) (by kernel_rfl) (fun hb36 => ?_) (fun hb36 => ?_)
 · -- yes
  have hp37 := hp28.1 hb36; clear hp28
  refine wp_skip ?_
  refine thn ?_
  refine wp_seq ?_
  refine wp_block ?_
  have hF38 : Fr 28 [] [⟨0, [], .slice ao1 zao1.length cap2⟩, ⟨2, [], .int .i64 x2⟩, ⟨3, [], .int .i64 x3⟩] a34 := hF35.region (by kernel_rfl) (by kernel_rfl); clear hF35
  have hcd6_0 := hp37.1; have hp85 := hp37.2; clear hp37
  obtain ⟨qd7_0, hqd7_0⟩ : ∃ q, zao1[x3.toNat]? = some q := ⟨_, List.getElem?_eq_getElem (by omega)⟩; have hp86 := hp85 qd7_0 hqd7_0; clear hp85
  have hcd10_0 := hp86.1; have hp87 := hp86.2; clear hp86
  obtain ⟨qd11_0, hqd11_0⟩ : ∃ q, zao1[x2.toNat]? = some q := ⟨_, List.getElem?_eq_getElem (by omega)⟩; have hp88 := hp87 qd11_0 hqd11_0; clear hp87
  have hcd12_0 := hp88.1; have hp89 := hp88.2; clear hp88
  have hcd14_0 := hp89.1; have hp90 := hp89.2; clear hp89
  refine any_invE mixed [[], [], [], [], [], [], [4, 5], [6], [], [], [8, 9], [10], [0, 1, 4, 5, 6, 7, 11], [0, 1, 4, 5, 6, 7, 11, 12], [0, 1, 2, 3, 4, 5, 6, 7, 8, 9, 10, 11, 12, 13], [0, 1, 2, 3, 4, 5, 6, 7, 8, 9, 10, 11, 12, 13, 14]] 16 (fun S a w1 => ∃ (g51 : Nat) (g64 : Nat) (g73 : Nat) (g79 : Nat) (ud14 : Value) (ud15 : Value) (ud16 : Value) (ud17 : Value) (ud18 : Value) (ud19 : Value) (ud20 : Value) (ud21 : Value) (ud22 : Value) (ud23 : Value) (ud24 : Value) (ud25 : Value) (ud26 : Value) (ud27 : Value) (rh0 : Res), Fz.le Z Z ∧ Fr 28 [] [⟨0, [], .slice ao1 zao1.length cap2⟩, ⟨2, [], .int .i64 x2⟩, ⟨3, [], .int .i64 x3⟩, ⟨14, [], ud14⟩, ⟨15, [], ud15⟩, ⟨16, [], ud16⟩, ⟨17, [], ud17⟩, ⟨18, [], ud18⟩, ⟨19, [], ud19⟩, ⟨20, [], ud20⟩, ⟨21, [], ud21⟩, ⟨22, [], ud22⟩, ⟨23, [], ud23⟩, ⟨24, [], ud24⟩, ⟨25, [], ud25⟩, ⟨26, [], ud26⟩, ⟨27, [], ud27⟩] a ∧ Mem B [] w0 Z0 (rh0 :: Rr) Z w1 ∧ (S 0 = true → ud14 = .slice ao1 zao1.length cap2) ∧ (S 1 = true → ud15 = .int .i64 x2) ∧ (S 2 = true → ud16 = .slice ao1 zao1.length cap2) ∧ (S 3 = true → ud17 = .int .i64 x3) ∧ (S 4 = true → ud18 = .slice ao1 zao1.length cap2) ∧ (S 5 = true → ud19 = .int .i64 x3) ∧ (S 6 = true → ud20 = .pointer (some ⟨g51, x3.toNat * 1, none⟩)) ∧ (S 7 = true → ud21 = .int .i64 qd7_0) ∧ (S 8 = true → ud22 = .slice ao1 zao1.length cap2) ∧ (S 9 = true → ud23 = .int .i64 x2) ∧ (S 10 = true → ud24 = .pointer (some ⟨g64, x2.toNat * 1, none⟩)) ∧ (S 11 = true → ud25 = .int .i64 qd11_0) ∧ (S 12 = true → ud26 = .pointer (some ⟨g73, x2.toNat * 1, none⟩)) ∧ (S 14 = true → ud27 = .pointer (some ⟨g79, x3.toNat * 1, none⟩)) ∧ (S 13 = false → rh0 = .own (tyInt .i64) 3 ao1 cap2 zao1) ∧ (S 13 = true → S 15 = false → rh0 = .own (tyInt .i64) 3 ao1 cap2 (zao1.set x2.toNat qd7_0)) ∧ (S 15 = true → rh0 = .own (tyInt .i64) 3 ao1 cap2 ((zao1.set x2.toNat qd7_0).set x3.toNat qd11_0)) ∧ (S 6 = true → ao1 = some ⟨g51, 0, none⟩) ∧ (S 10 = true → ao1 = some ⟨g64, 0, none⟩) ∧ (S 12 = true → ao1 = some ⟨g73, 0, none⟩) ∧ (S 14 = true → ao1 = some ⟨g79, 0, none⟩)) ?h0 ?hs ?hE
  case h0 =>
   have hF92 := hF38.any 14
   have hF93 := hF92.any 15
   have hF94 := hF93.any 16
   have hF95 := hF94.any 17
   have hF96 := hF95.any 18
   have hF97 := hF96.any 19
   have hF98 := hF97.any 20
   have hF99 := hF98.any 21
   have hF100 := hF99.any 22
   have hF101 := hF100.any 23
   have hF102 := hF101.any 24
   have hF103 := hF102.any 25
   have hF104 := hF103.any 26
   have hF105 := hF104.any 27
   have hM106 := (hM27.perm (List.Perm.refl _)).drew
   exact ⟨0, 0, 0, 0, a34.tmps.getD 14 undef, a34.tmps.getD 15 undef, a34.tmps.getD 16 undef, a34.tmps.getD 17 undef, a34.tmps.getD 18 undef, a34.tmps.getD 19 undef, a34.tmps.getD 20 undef, a34.tmps.getD 21 undef, a34.tmps.getD 22 undef, a34.tmps.getD 23 undef, a34.tmps.getD 24 undef, a34.tmps.getD 25 undef, a34.tmps.getD 26 undef, a34.tmps.getD 27 undef, .own (tyInt .i64) 3 ao1 cap2 zao1, Fz.le.refl _, hF105.region (by kernel_rfl) (by kernel_rfl), hM106, ff, ff, ff, ff, ff, ff, ff, ff, ff, ff, ff, ff, ff, ff, kf, ff, ff, ff, ff, ff, ff⟩
  case hs =>
   intro S hcl i o hil hi hSi hpre a w1 hI; refine Go.Sy.hid ?_; intro G hG; obtain ⟨g51, hI⟩ := hI; obtain ⟨g64, hI⟩ := hI; obtain ⟨g73, hI⟩ := hI; obtain ⟨g79, hI⟩ := hI; obtain ⟨ud14, hI⟩ := hI; obtain ⟨ud15, hI⟩ := hI; obtain ⟨ud16, hI⟩ := hI; obtain ⟨ud17, hI⟩ := hI; obtain ⟨ud18, hI⟩ := hI; obtain ⟨ud19, hI⟩ := hI; obtain ⟨ud20, hI⟩ := hI; obtain ⟨ud21, hI⟩ := hI; obtain ⟨ud22, hI⟩ := hI; obtain ⟨ud23, hI⟩ := hI; obtain ⟨ud24, hI⟩ := hI; obtain ⟨ud25, hI⟩ := hI; obtain ⟨ud26, hI⟩ := hI; obtain ⟨ud27, hI⟩ := hI; obtain ⟨rh0, hI⟩ := hI; obtain ⟨hle91, hI⟩ := hI; obtain ⟨hFx, hI⟩ := hI; obtain ⟨hMx, hI⟩ := hI; obtain ⟨cu14, hI⟩ := hI; obtain ⟨cu15, hI⟩ := hI; obtain ⟨cu16, hI⟩ := hI; obtain ⟨cu17, hI⟩ := hI; obtain ⟨cu18, hI⟩ := hI; obtain ⟨cu19, hI⟩ := hI; obtain ⟨cu20, hI⟩ := hI; obtain ⟨cu21, hI⟩ := hI; obtain ⟨cu22, hI⟩ := hI; obtain ⟨cu23, hI⟩ := hI; obtain ⟨cu24, hI⟩ := hI; obtain ⟨cu25, hI⟩ := hI; obtain ⟨cu26, hI⟩ := hI; obtain ⟨cu27, hI⟩ := hI; obtain ⟨cr0_0, hI⟩ := hI; obtain ⟨cr0_1, hI⟩ := hI; obtain ⟨cr0_2, hI⟩ := hI; obtain ⟨cf0, hI⟩ := hI; obtain ⟨cf1, hI⟩ := hI; obtain ⟨cf2, hI⟩ := hI; have cf3 := hI; clear hI
   have hcase : i = 0 ∨ i = 1 ∨ i = 2 ∨ i = 3 ∨ i = 4 ∨ i = 5 ∨ i = 6 ∨ i = 7 ∨ i = 8 ∨ i = 9 ∨ i = 10 ∨ i = 11 ∨ i = 12 ∨ i = 13 ∨ i = 14 ∨ i = 15 := by clear hi; omega
   rcases hcase with rfl | rfl | rfl | rfl | rfl | rfl | rfl | rfl | rfl | rfl | rfl | rfl | rfl | rfl | rfl | rfl
   · -- 0: move
    obtain rfl := Option.some.inj hi
    have hx0 := hSi
    have hx12 := negF hcl 12 0 (by kernel_rfl) hx0
    have hx13 := negF hcl 13 0 (by kernel_rfl) hx0
    have hx14 := negF hcl 14 0 (by kernel_rfl) hx0
    have hx15 := negF hcl 15 0 (by kernel_rfl) hx0
    obtain rfl := cr0_0 hx13
    refine hG (any_step ?_); clear hG G; intro A J hJ
    have hle0 := Fz.le.trans hle0 hle91
    refine s1 hFx 14 (.slice ao1 zao1.length cap2) ?_; intro a107 hF108; clear hFx
    refine nl (qnI (hJ _ _ ?_)); clear hJ J
    exact ⟨g51, g64, g73, g79, .slice ao1 zao1.length cap2, ud15, ud16, ud17, ud18, ud19, ud20, ud21, ud22, ud23, ud24, ud25, ud26, ud27, .own (tyInt .i64) 3 ao1 cap2 zao1, hle91, hF108.region (by kernel_rfl) (by kernel_rfl), hMx.perm (List.Perm.refl _), kf, cu15, cu16, cu17, cu18, cu19, cu20, cu21, cu22, cu23, cu24, cu25, (nt hx12), (nt hx14), kf, (fun h _ => nt hx13 h), (nt hx15), cf0, cf1, (nt hx12), (nt hx14)⟩
   · -- 1: move
    obtain rfl := Option.some.inj hi
    have hx1 := hSi
    have hx12 := negF hcl 12 1 (by kernel_rfl) hx1
    have hx13 := negF hcl 13 1 (by kernel_rfl) hx1
    have hx14 := negF hcl 14 1 (by kernel_rfl) hx1
    have hx15 := negF hcl 15 1 (by kernel_rfl) hx1
    obtain rfl := cr0_0 hx13
    refine hG (any_step ?_); clear hG G; intro A J hJ
    have hle0 := Fz.le.trans hle0 hle91
    refine s1 hFx 15 (.int .i64 x2) ?_; intro a110 hF111; clear hFx
    refine nl (qnI (hJ _ _ ?_)); clear hJ J
    exact ⟨g51, g64, g73, g79, ud14, .int .i64 x2, ud16, ud17, ud18, ud19, ud20, ud21, ud22, ud23, ud24, ud25, ud26, ud27, .own (tyInt .i64) 3 ao1 cap2 zao1, hle91, hF111.region (by kernel_rfl) (by kernel_rfl), hMx.perm (List.Perm.refl _), cu14, kf, cu16, cu17, cu18, cu19, cu20, cu21, cu22, cu23, cu24, cu25, (nt hx12), (nt hx14), kf, (fun h _ => nt hx13 h), (nt hx15), cf0, cf1, (nt hx12), (nt hx14)⟩
   · -- 2: move
    obtain rfl := Option.some.inj hi
    have hx2 := hSi
    have hx14 := negF hcl 14 2 (by kernel_rfl) hx2
    have hx15 := negF hcl 15 2 (by kernel_rfl) hx2
    refine hG (any_step ?_); clear hG G; intro A J hJ
    have hle0 := Fz.le.trans hle0 hle91
    refine s1 hFx 16 (.slice ao1 zao1.length cap2) ?_; intro a113 hF114; clear hFx
    refine nl (qnI (hJ _ _ ?_)); clear hJ J
    exact ⟨g51, g64, g73, g79, ud14, ud15, .slice ao1 zao1.length cap2, ud17, ud18, ud19, ud20, ud21, ud22, ud23, ud24, ud25, ud26, ud27, rh0, hle91, hF114.region (by kernel_rfl) (by kernel_rfl), hMx.perm (List.Perm.refl _), cu14, cu15, kf, cu17, cu18, cu19, cu20, cu21, cu22, cu23, cu24, cu25, cu26, (nt hx14), cr0_0, cr0_1, (nt hx15), cf0, cf1, cf2, (nt hx14)⟩
   · -- 3: move
    obtain rfl := Option.some.inj hi
    have hx3 := hSi
    have hx14 := negF hcl 14 3 (by kernel_rfl) hx3
    have hx15 := negF hcl 15 3 (by kernel_rfl) hx3
    refine hG (any_step ?_); clear hG G; intro A J hJ
    have hle0 := Fz.le.trans hle0 hle91
    refine s1 hFx 17 (.int .i64 x3) ?_; intro a116 hF117; clear hFx
    refine nl (qnI (hJ _ _ ?_)); clear hJ J
    exact ⟨g51, g64, g73, g79, ud14, ud15, ud16, .int .i64 x3, ud18, ud19, ud20, ud21, ud22, ud23, ud24, ud25, ud26, ud27, rh0, hle91, hF117.region (by kernel_rfl) (by kernel_rfl), hMx.perm (List.Perm.refl _), cu14, cu15, cu16, kf, cu18, cu19, cu20, cu21, cu22, cu23, cu24, cu25, cu26, (nt hx14), cr0_0, cr0_1, (nt hx15), cf0, cf1, cf2, (nt hx14)⟩
   · -- 4: move
    obtain rfl := Option.some.inj hi
    have hx4 := hSi
    have hx6 := negF hcl 6 4 (by kernel_rfl) hx4
    have hx7 := negF hcl 7 6 (by kernel_rfl) hx6
    have hx12 := negF hcl 12 4 (by kernel_rfl) hx4
    have hx13 := negF hcl 13 4 (by kernel_rfl) hx4
    have hx14 := negF hcl 14 4 (by kernel_rfl) hx4
    have hx15 := negF hcl 15 4 (by kernel_rfl) hx4
    obtain rfl := cr0_0 hx13
    refine hG (any_step ?_); clear hG G; intro A J hJ
    have hle0 := Fz.le.trans hle0 hle91
    refine s1 hFx 18 (.slice ao1 zao1.length cap2) ?_; intro a119 hF120; clear hFx
    refine nl (qnI (hJ _ _ ?_)); clear hJ J
    exact ⟨g51, g64, g73, g79, ud14, ud15, ud16, ud17, .slice ao1 zao1.length cap2, ud19, ud20, ud21, ud22, ud23, ud24, ud25, ud26, ud27, .own (tyInt .i64) 3 ao1 cap2 zao1, hle91, hF120.region (by kernel_rfl) (by kernel_rfl), hMx.perm (List.Perm.refl _), cu14, cu15, cu16, cu17, kf, cu19, (nt hx6), (nt hx7), cu22, cu23, cu24, cu25, (nt hx12), (nt hx14), kf, (fun h _ => nt hx13 h), (nt hx15), (nt hx6), cf1, (nt hx12), (nt hx14)⟩
   · -- 5: move
    obtain rfl := Option.some.inj hi
    have hx5 := hSi
    have hx6 := negF hcl 6 5 (by kernel_rfl) hx5
    have hx7 := negF hcl 7 6 (by kernel_rfl) hx6
    have hx12 := negF hcl 12 5 (by kernel_rfl) hx5
    have hx13 := negF hcl 13 5 (by kernel_rfl) hx5
    have hx14 := negF hcl 14 5 (by kernel_rfl) hx5
    have hx15 := negF hcl 15 5 (by kernel_rfl) hx5
    obtain rfl := cr0_0 hx13
    refine hG (any_step ?_); clear hG G; intro A J hJ
    have hle0 := Fz.le.trans hle0 hle91
    refine s1 hFx 19 (.int .i64 x3) ?_; intro a122 hF123; clear hFx
    refine nl (qnI (hJ _ _ ?_)); clear hJ J
    exact ⟨g51, g64, g73, g79, ud14, ud15, ud16, ud17, ud18, .int .i64 x3, ud20, ud21, ud22, ud23, ud24, ud25, ud26, ud27, .own (tyInt .i64) 3 ao1 cap2 zao1, hle91, hF123.region (by kernel_rfl) (by kernel_rfl), hMx.perm (List.Perm.refl _), cu14, cu15, cu16, cu17, cu18, kf, (nt hx6), (nt hx7), cu22, cu23, cu24, cu25, (nt hx12), (nt hx14), kf, (fun h _ => nt hx13 h), (nt hx15), (nt hx6), cf1, (nt hx12), (nt hx14)⟩
   · -- 6: indexAddr
    obtain rfl := Option.some.inj hi
    have hx5 := hpre 5 (by kernel_rfl)
    have hx4 := hpre 4 (by kernel_rfl)
    have hx6 := hSi
    have hx7 := negF hcl 7 6 (by kernel_rfl) hx6
    have hx12 := negF hcl 12 6 (by kernel_rfl) hx6
    have hx13 := negF hcl 13 6 (by kernel_rfl) hx6
    have hx14 := negF hcl 14 6 (by kernel_rfl) hx6
    have hx15 := negF hcl 15 6 (by kernel_rfl) hx6
    obtain rfl := cu18 hx4
    obtain rfl := cu19 hx5
    obtain rfl := cr0_0 hx13
    refine hG (any_step ?_); clear hG G; intro A J hJ
    have hle0 := Fz.le.trans hle0 hle91
    refine ixo hFx hMx 0 (T := (tyInt .i64)) (xs := zao1) x3 (by simpa only [List.length_set] using hcd6_0) (k := .i64) (e := 3) (bytes := 8) (nog rfl _) rfl (by kernel_rfl) rfl (by kernel_rfl) (by kernel_rfl) rfl (by kernel_rfl) ?_; intro g125 a127 hg126 hF128; clear hFx
    refine nl (qnI (hJ _ _ ?_)); clear hJ J
    exact ⟨g125, g64, g73, g79, ud14, ud15, ud16, ud17, .slice ao1 zao1.length cap2, .int .i64 x3, .pointer (some ⟨g125, x3.toNat * 1, none⟩), ud21, ud22, ud23, ud24, ud25, ud26, ud27, .own (tyInt .i64) 3 ao1 cap2 zao1, hle91, hF128.region (by kernel_rfl) (by kernel_rfl), hMx.perm (List.Perm.refl _), cu14, cu15, cu16, cu17, kf, kf, kf, (nt hx7), cu22, cu23, cu24, cu25, (nt hx12), (nt hx14), kf, (fun h _ => nt hx13 h), (nt hx15), (fun _ => hg126), cf1, (nt hx12), (nt hx14)⟩
   · -- 7: load
    obtain rfl := Option.some.inj hi
    have hx6 := hpre 6 (by kernel_rfl)
    have hx5 := hcl 6 5 (by kernel_rfl) hx6
    have hx4 := hcl 6 4 (by kernel_rfl) hx6
    have hx7 := hSi
    have hx12 := negF hcl 12 7 (by kernel_rfl) hx7
    have hx13 := negF hcl 13 7 (by kernel_rfl) hx7
    have hx14 := negF hcl 14 7 (by kernel_rfl) hx7
    have hx15 := negF hcl 15 7 (by kernel_rfl) hx7
    obtain rfl := cu18 hx4
    obtain rfl := cu19 hx5
    obtain rfl := cu20 hx6
    obtain rfl := cr0_0 hx13
    refine hG (any_step ?_); clear hG G; intro A J hJ
    have hle0 := Fz.le.trans hle0 hle91
    have hs130 := cf0 hx6
    obtain ⟨cs131, hT132, hcl133⟩ := own_elx hMx 0 (T := (tyInt .i64)) (xs := zao1) rfl hs130 x3.toNat hqd7_0
    obtain rfl : cs131 = ([.int .i64 qd7_0] : List Value) := hT132
    refine lc1 hFx 21 (.int .i64 qd7_0) (hcl133 0 _ rfl) rfl ?_; intro a134 hF135; clear hFx
    refine nl (qnI (hJ _ _ ?_)); clear hJ J
    exact ⟨g51, g64, g73, g79, ud14, ud15, ud16, ud17, .slice ao1 zao1.length cap2, .int .i64 x3, .pointer (some ⟨g51, x3.toNat * 1, none⟩), .int .i64 qd7_0, ud22, ud23, ud24, ud25, ud26, ud27, .own (tyInt .i64) 3 ao1 cap2 zao1, hle91, hF135.region (by kernel_rfl) (by kernel_rfl), hMx.perm (List.Perm.refl _), cu14, cu15, cu16, cu17, kf, kf, kf, kf, cu22, cu23, cu24, cu25, (nt hx12), (nt hx14), kf, (fun h _ => nt hx13 h), (nt hx15), (fun _ => hs130), cf1, (nt hx12), (nt hx14)⟩
   · -- 8: move
    obtain rfl := Option.some.inj hi
    have hx8 := hSi
    have hx10 := negF hcl 10 8 (by kernel_rfl) hx8
    have hx11 := negF hcl 11 10 (by kernel_rfl) hx10
    have hx12 := negF hcl 12 11 (by kernel_rfl) hx11
    have hx13 := negF hcl 13 11 (by kernel_rfl) hx11
    have hx14 := negF hcl 14 8 (by kernel_rfl) hx8
    have hx15 := negF hcl 15 8 (by kernel_rfl) hx8
    obtain rfl := cr0_0 hx13
    refine hG (any_step ?_); clear hG G; intro A J hJ
    have hle0 := Fz.le.trans hle0 hle91
    refine s1 hFx 22 (.slice ao1 zao1.length cap2) ?_; intro a137 hF138; clear hFx
    refine nl (qnI (hJ _ _ ?_)); clear hJ J
    exact ⟨g51, g64, g73, g79, ud14, ud15, ud16, ud17, ud18, ud19, ud20, ud21, .slice ao1 zao1.length cap2, ud23, ud24, ud25, ud26, ud27, .own (tyInt .i64) 3 ao1 cap2 zao1, hle91, hF138.region (by kernel_rfl) (by kernel_rfl), hMx.perm (List.Perm.refl _), cu14, cu15, cu16, cu17, cu18, cu19, cu20, cu21, kf, cu23, (nt hx10), (nt hx11), (nt hx12), (nt hx14), kf, (fun h _ => nt hx13 h), (nt hx15), cf0, (nt hx10), (nt hx12), (nt hx14)⟩
   · -- 9: move
    obtain rfl := Option.some.inj hi
    have hx9 := hSi
    have hx10 := negF hcl 10 9 (by kernel_rfl) hx9
    have hx11 := negF hcl 11 10 (by kernel_rfl) hx10
    have hx12 := negF hcl 12 11 (by kernel_rfl) hx11
    have hx13 := negF hcl 13 11 (by kernel_rfl) hx11
    have hx14 := negF hcl 14 9 (by kernel_rfl) hx9
    have hx15 := negF hcl 15 9 (by kernel_rfl) hx9
    obtain rfl := cr0_0 hx13
    refine hG (any_step ?_); clear hG G; intro A J hJ
    have hle0 := Fz.le.trans hle0 hle91
    refine s1 hFx 23 (.int .i64 x2) ?_; intro a140 hF141; clear hFx
    refine nl (qnI (hJ _ _ ?_)); clear hJ J
    exact ⟨g51, g64, g73, g79, ud14, ud15, ud16, ud17, ud18, ud19, ud20, ud21, ud22, .int .i64 x2, ud24, ud25, ud26, ud27, .own (tyInt .i64) 3 ao1 cap2 zao1, hle91, hF141.region (by kernel_rfl) (by kernel_rfl), hMx.perm (List.Perm.refl _), cu14, cu15, cu16, cu17, cu18, cu19, cu20, cu21, cu22, kf, (nt hx10), (nt hx11), (nt hx12), (nt hx14), kf, (fun h _ => nt hx13 h), (nt hx15), cf0, (nt hx10), (nt hx12), (nt hx14)⟩
   · -- 10: indexAddr
    obtain rfl := Option.some.inj hi
    have hx9 := hpre 9 (by kernel_rfl)
    have hx8 := hpre 8 (by kernel_rfl)
    have hx10 := hSi
    have hx11 := negF hcl 11 10 (by kernel_rfl) hx10
    have hx12 := negF hcl 12 11 (by kernel_rfl) hx11
    have hx13 := negF hcl 13 11 (by kernel_rfl) hx11
    have hx14 := negF hcl 14 10 (by kernel_rfl) hx10
    have hx15 := negF hcl 15 10 (by kernel_rfl) hx10
    obtain rfl := cu22 hx8
    obtain rfl := cu23 hx9
    obtain rfl := cr0_0 hx13
    refine hG (any_step ?_); clear hG G; intro A J hJ
    have hle0 := Fz.le.trans hle0 hle91
    refine ixo hFx hMx 0 (T := (tyInt .i64)) (xs := zao1) x2 (by simpa only [List.length_set] using hcd10_0) (k := .i64) (e := 3) (bytes := 8) (nog rfl _) rfl (by kernel_rfl) rfl (by kernel_rfl) (by kernel_rfl) rfl (by kernel_rfl) ?_; intro g143 a145 hg144 hF146; clear hFx
    refine nl (qnI (hJ _ _ ?_)); clear hJ J
    exact ⟨g51, g143, g73, g79, ud14, ud15, ud16, ud17, ud18, ud19, ud20, ud21, .slice ao1 zao1.length cap2, .int .i64 x2, .pointer (some ⟨g143, x2.toNat * 1, none⟩), ud25, ud26, ud27, .own (tyInt .i64) 3 ao1 cap2 zao1, hle91, hF146.region (by kernel_rfl) (by kernel_rfl), hMx.perm (List.Perm.refl _), cu14, cu15, cu16, cu17, cu18, cu19, cu20, cu21, kf, kf, kf, (nt hx11), (nt hx12), (nt hx14), kf, (fun h _ => nt hx13 h), (nt hx15), cf0, (fun _ => hg144), (nt hx12), (nt hx14)⟩
   · -- 11: load
    obtain rfl := Option.some.inj hi
    have hx10 := hpre 10 (by kernel_rfl)
    have hx9 := hcl 10 9 (by kernel_rfl) hx10
    have hx8 := hcl 10 8 (by kernel_rfl) hx10
    have hx11 := hSi
    have hx12 := negF hcl 12 11 (by kernel_rfl) hx11
    have hx13 := negF hcl 13 11 (by kernel_rfl) hx11
    have hx14 := negF hcl 14 11 (by kernel_rfl) hx11
    have hx15 := negF hcl 15 11 (by kernel_rfl) hx11
    obtain rfl := cu22 hx8
    obtain rfl := cu23 hx9
    obtain rfl := cu24 hx10
    obtain rfl := cr0_0 hx13
    refine hG (any_step ?_); clear hG G; intro A J hJ
    have hle0 := Fz.le.trans hle0 hle91
    have hs148 := cf1 hx10
    obtain ⟨cs149, hT150, hcl151⟩ := own_elx hMx 0 (T := (tyInt .i64)) (xs := zao1) rfl hs148 x2.toNat hqd11_0
    obtain rfl : cs149 = ([.int .i64 qd11_0] : List Value) := hT150
    refine lc1 hFx 25 (.int .i64 qd11_0) (hcl151 0 _ rfl) rfl ?_; intro a152 hF153; clear hFx
    refine nl (qnI (hJ _ _ ?_)); clear hJ J
    exact ⟨g51, g64, g73, g79, ud14, ud15, ud16, ud17, ud18, ud19, ud20, ud21, .slice ao1 zao1.length cap2, .int .i64 x2, .pointer (some ⟨g64, x2.toNat * 1, none⟩), .int .i64 qd11_0, ud26, ud27, .own (tyInt .i64) 3 ao1 cap2 zao1, hle91, hF153.region (by kernel_rfl) (by kernel_rfl), hMx.perm (List.Perm.refl _), cu14, cu15, cu16, cu17, cu18, cu19, cu20, cu21, kf, kf, kf, kf, (nt hx12), (nt hx14), kf, (fun h _ => nt hx13 h), (nt hx15), cf0, (fun _ => hs148), (nt hx12), (nt hx14)⟩
   · -- 12: indexAddr
    obtain rfl := Option.some.inj hi
    have hx11 := hpre 11 (by kernel_rfl)
    have hx7 := hpre 7 (by kernel_rfl)
    have hx6 := hpre 6 (by kernel_rfl)
    have hx5 := hpre 5 (by kernel_rfl)
    have hx4 := hpre 4 (by kernel_rfl)
    have hx1 := hpre 1 (by kernel_rfl)
    have hx0 := hpre 0 (by kernel_rfl)
    have hx10 := hcl 11 10 (by kernel_rfl) hx11
    have hx9 := hcl 10 9 (by kernel_rfl) hx10
    have hx8 := hcl 10 8 (by kernel_rfl) hx10
    have hx12 := hSi
    have hx13 := negF hcl 13 12 (by kernel_rfl) hx12
    have hx14 := negF hcl 14 12 (by kernel_rfl) hx12
    have hx15 := negF hcl 15 12 (by kernel_rfl) hx12
    obtain rfl := cu14 hx0
    obtain rfl := cu15 hx1
    obtain rfl := cu18 hx4
    obtain rfl := cu19 hx5
    obtain rfl := cu20 hx6
    obtain rfl := cu21 hx7
    obtain rfl := cu22 hx8
    obtain rfl := cu23 hx9
    obtain rfl := cu24 hx10
    obtain rfl := cu25 hx11
    obtain rfl := cr0_0 hx13
    refine hG (any_step ?_); clear hG G; intro A J hJ
    have hle0 := Fz.le.trans hle0 hle91
    have hs155 := cf0 hx6
    have hs156 := cf1 hx10
    refine ixo hFx hMx 0 (T := (tyInt .i64)) (xs := zao1) x2 (by simpa only [List.length_set] using hcd12_0) (k := .i64) (e := 3) (bytes := 8) (nog rfl _) rfl (by kernel_rfl) rfl (by kernel_rfl) (by kernel_rfl) rfl (by kernel_rfl) ?_; intro g157 a159 hg158 hF160; clear hFx
    refine nl (qnI (hJ _ _ ?_)); clear hJ J
    exact ⟨g51, g64, g157, g79, .slice ao1 zao1.length cap2, .int .i64 x2, ud16, ud17, .slice ao1 zao1.length cap2, .int .i64 x3, .pointer (some ⟨g51, x3.toNat * 1, none⟩), .int .i64 qd7_0, .slice ao1 zao1.length cap2, .int .i64 x2, .pointer (some ⟨g64, x2.toNat * 1, none⟩), .int .i64 qd11_0, .pointer (some ⟨g157, x2.toNat * 1, none⟩), ud27, .own (tyInt .i64) 3 ao1 cap2 zao1, hle91, hF160.region (by kernel_rfl) (by kernel_rfl), hMx.perm (List.Perm.refl _), kf, kf, cu16, cu17, kf, kf, kf, kf, kf, kf, kf, kf, kf, (nt hx14), kf, (fun h _ => nt hx13 h), (nt hx15), (fun _ => hs155), (fun _ => hs156), (fun _ => hg158), (nt hx14)⟩
   · -- 13: store
    obtain rfl := Option.some.inj hi
    have hx12 := hpre 12 (by kernel_rfl)
    have hx11 := hpre 11 (by kernel_rfl)
    have hx7 := hpre 7 (by kernel_rfl)
    have hx6 := hpre 6 (by kernel_rfl)
    have hx5 := hpre 5 (by kernel_rfl)
    have hx4 := hpre 4 (by kernel_rfl)
    have hx1 := hpre 1 (by kernel_rfl)
    have hx0 := hpre 0 (by kernel_rfl)
    have hx10 := hcl 11 10 (by kernel_rfl) hx11
    have hx9 := hcl 10 9 (by kernel_rfl) hx10
    have hx8 := hcl 10 8 (by kernel_rfl) hx10
    have hx13 := hSi
    have hx14 := negF hcl 14 13 (by kernel_rfl) hx13
    have hx15 := negF hcl 15 13 (by kernel_rfl) hx13
    obtain rfl := cu14 hx0
    obtain rfl := cu15 hx1
    obtain rfl := cu18 hx4
    obtain rfl := cu19 hx5
    obtain rfl := cu20 hx6
    obtain rfl := cu21 hx7
    obtain rfl := cu22 hx8
    obtain rfl := cu23 hx9
    obtain rfl := cu24 hx10
    obtain rfl := cu25 hx11
    obtain rfl := cu26 hx12
    obtain rfl := cr0_0 hx13
    refine hG (any_step ?_); clear hG G; intro A J hJ
    have hle0 := Fz.le.trans hle0 hle91
    have hs162 := cf0 hx6
    have hs163 := cf1 hx10
    have hs164 := cf2 hx12
    refine sox hFx hMx 0 hs164 (T := (tyInt .i64)) (xs := zao1) x2.toNat qd7_0 (u := .int .i64 qd7_0) (nog rfl _) rfl rfl (by kernel_rfl) rfl (by kernel_rfl) rfl (by kernel_rfl) (by simp only [List.length_set] at *; omega) rfl ?_; intro wd165 hM166; clear hMx
    refine nl (qnI (hJ _ _ ?_)); clear hJ J
    exact ⟨g51, g64, g73, g79, .slice ao1 zao1.length cap2, .int .i64 x2, ud16, ud17, .slice ao1 zao1.length cap2, .int .i64 x3, .pointer (some ⟨g51, x3.toNat * 1, none⟩), .int .i64 qd7_0, .slice ao1 zao1.length cap2, .int .i64 x2, .pointer (some ⟨g64, x2.toNat * 1, none⟩), .int .i64 qd11_0, .pointer (some ⟨g73, x2.toNat * 1, none⟩), ud27, .own (tyInt .i64) 3 ao1 cap2 (zao1.set x2.toNat qd7_0), hle91, hFx.region (by kernel_rfl) (by kernel_rfl), hM166.perm (List.Perm.refl _), kf, kf, cu16, cu17, kf, kf, kf, kf, kf, kf, kf, kf, kf, (nt hx14), nu, kf2, (nt hx15), (fun _ => hs162), (fun _ => hs163), (fun _ => hs164), (nt hx14)⟩
   · -- 14: indexAddr
    obtain rfl := Option.some.inj hi
    have hx13 := hpre 13 (by kernel_rfl)
    have hx12 := hpre 12 (by kernel_rfl)
    have hx11 := hpre 11 (by kernel_rfl)
    have hx10 := hpre 10 (by kernel_rfl)
    have hx9 := hpre 9 (by kernel_rfl)
    have hx8 := hpre 8 (by kernel_rfl)
    have hx7 := hpre 7 (by kernel_rfl)
    have hx6 := hpre 6 (by kernel_rfl)
    have hx5 := hpre 5 (by kernel_rfl)
    have hx4 := hpre 4 (by kernel_rfl)
    have hx3 := hpre 3 (by kernel_rfl)
    have hx2 := hpre 2 (by kernel_rfl)
    have hx1 := hpre 1 (by kernel_rfl)
    have hx0 := hpre 0 (by kernel_rfl)
    have hx14 := hSi
    have hx15 := negF hcl 15 14 (by kernel_rfl) hx14
    obtain rfl := cu14 hx0
    obtain rfl := cu15 hx1
    obtain rfl := cu16 hx2
    obtain rfl := cu17 hx3
    obtain rfl := cu18 hx4
    obtain rfl := cu19 hx5
    obtain rfl := cu20 hx6
    obtain rfl := cu21 hx7
    obtain rfl := cu22 hx8
    obtain rfl := cu23 hx9
    obtain rfl := cu24 hx10
    obtain rfl := cu25 hx11
    obtain rfl := cu26 hx12
    obtain rfl := cr0_1 hx13 hx15
    refine hG (any_step ?_); clear hG G; intro A J hJ
    have hle0 := Fz.le.trans hle0 hle91
    have hs168 := cf0 hx6
    have hs169 := cf1 hx10
    have hs170 := cf2 hx12
    have hl171 : (zao1.set x2.toNat qd7_0).length = zao1.length := by simp; try omega
    have hF172 : Fr 28 [] [⟨0, [], .slice ao1 (zao1.set x2.toNat qd7_0).length cap2⟩, ⟨2, [], .int .i64 x2⟩, ⟨3, [], .int .i64 x3⟩, ⟨14, [], .slice ao1 (zao1.set x2.toNat qd7_0).length cap2⟩, ⟨15, [], .int .i64 x2⟩, ⟨16, [], .slice ao1 (zao1.set x2.toNat qd7_0).length cap2⟩, ⟨17, [], .int .i64 x3⟩, ⟨18, [], .slice ao1 (zao1.set x2.toNat qd7_0).length cap2⟩, ⟨19, [], .int .i64 x3⟩, ⟨20, [], .pointer (some ⟨g51, x3.toNat * 1, none⟩)⟩, ⟨21, [], .int .i64 qd7_0⟩, ⟨22, [], .slice ao1 (zao1.set x2.toNat qd7_0).length cap2⟩, ⟨23, [], .int .i64 x2⟩, ⟨24, [], .pointer (some ⟨g64, x2.toNat * 1, none⟩)⟩, ⟨25, [], .int .i64 qd11_0⟩, ⟨26, [], .pointer (some ⟨g73, x2.toNat * 1, none⟩)⟩, ⟨27, [], ud27⟩] a := by rw [hl171]; exact hFx.region (by kernel_rfl) (by kernel_rfl)
    clear hFx
    refine ixo hF172 hMx 0 (T := (tyInt .i64)) (xs := zao1.set x2.toNat qd7_0) x3 (by simpa only [List.length_set] using hcd14_0) (k := .i64) (e := 3) (bytes := 8) (nog rfl _) rfl (by kernel_rfl) rfl (by kernel_rfl) (by kernel_rfl) rfl (by kernel_rfl) ?_; intro g173 a175 hg174 hF176; clear hF172
    refine nl (qnI (hJ _ _ ?_)); clear hJ J
    rw [hl171] at hF176
    exact ⟨g51, g64, g73, g173, .slice ao1 zao1.length cap2, .int .i64 x2, .slice ao1 zao1.length cap2, .int .i64 x3, .slice ao1 zao1.length cap2, .int .i64 x3, .pointer (some ⟨g51, x3.toNat * 1, none⟩), .int .i64 qd7_0, .slice ao1 zao1.length cap2, .int .i64 x2, .pointer (some ⟨g64, x2.toNat * 1, none⟩), .int .i64 qd11_0, .pointer (some ⟨g73, x2.toNat * 1, none⟩), .pointer (some ⟨g173, x3.toNat * 1, none⟩), .own (tyInt .i64) 3 ao1 cap2 (zao1.set x2.toNat qd7_0), hle91, hF176.region (by kernel_rfl) (by kernel_rfl), hMx.perm (List.Perm.refl _), (fun _ => by first | rfl | rw [hl171]), (fun _ => by first | rfl | rw [hl171]), (fun _ => by first | rfl | rw [hl171]), (fun _ => by first | rfl | rw [hl171]), (fun _ => by first | rfl | rw [hl171]), (fun _ => by first | rfl | rw [hl171]), (fun _ => by first | rfl | rw [hl171]), (fun _ => by first | rfl | rw [hl171]), (fun _ => by first | rfl | rw [hl171]), (fun _ => by first | rfl | rw [hl171]), (fun _ => by first | rfl | rw [hl171]), (fun _ => by first | rfl | rw [hl171]), (fun _ => by first | rfl | rw [hl171]), (fun _ => by first | rfl | rw [hl171]), (tn hx13), kf2, (nt hx15), (fun _ => hs168), (fun _ => hs169), (fun _ => hs170), (fun _ => hg174)⟩
   · -- 15: store
    obtain rfl := Option.some.inj hi
    have hx14 := hpre 14 (by kernel_rfl)
    have hx13 := hpre 13 (by kernel_rfl)
    have hx12 := hpre 12 (by kernel_rfl)
    have hx11 := hpre 11 (by kernel_rfl)
    have hx10 := hpre 10 (by kernel_rfl)
    have hx9 := hpre 9 (by kernel_rfl)
    have hx8 := hpre 8 (by kernel_rfl)
    have hx7 := hpre 7 (by kernel_rfl)
    have hx6 := hpre 6 (by kernel_rfl)
    have hx5 := hpre 5 (by kernel_rfl)
    have hx4 := hpre 4 (by kernel_rfl)
    have hx3 := hpre 3 (by kernel_rfl)
    have hx2 := hpre 2 (by kernel_rfl)
    have hx1 := hpre 1 (by kernel_rfl)
    have hx0 := hpre 0 (by kernel_rfl)
    have hx15 := hSi
    obtain rfl := cu14 hx0
    obtain rfl := cu15 hx1
    obtain rfl := cu16 hx2
    obtain rfl := cu17 hx3
    obtain rfl := cu18 hx4
    obtain rfl := cu19 hx5
    obtain rfl := cu20 hx6
    obtain rfl := cu21 hx7
    obtain rfl := cu22 hx8
    obtain rfl := cu23 hx9
    obtain rfl := cu24 hx10
    obtain rfl := cu25 hx11
    obtain rfl := cu26 hx12
    obtain rfl := cu27 hx14
    obtain rfl := cr0_1 hx13 hx15
    refine hG (any_step ?_); clear hG G; intro A J hJ
    have hle0 := Fz.le.trans hle0 hle91
    have hs178 := cf0 hx6
    have hs179 := cf1 hx10
    have hs180 := cf2 hx12
    have hs181 := cf3 hx14
    have hl182 : (zao1.set x2.toNat qd7_0).length = zao1.length := by simp; try omega
    have hF183 : Fr 28 [] [⟨0, [], .slice ao1 (zao1.set x2.toNat qd7_0).length cap2⟩, ⟨2, [], .int .i64 x2⟩, ⟨3, [], .int .i64 x3⟩, ⟨14, [], .slice ao1 (zao1.set x2.toNat qd7_0).length cap2⟩, ⟨15, [], .int .i64 x2⟩, ⟨16, [], .slice ao1 (zao1.set x2.toNat qd7_0).length cap2⟩, ⟨17, [], .int .i64 x3⟩, ⟨18, [], .slice ao1 (zao1.set x2.toNat qd7_0).length cap2⟩, ⟨19, [], .int .i64 x3⟩, ⟨20, [], .pointer (some ⟨g51, x3.toNat * 1, none⟩)⟩, ⟨21, [], .int .i64 qd7_0⟩, ⟨22, [], .slice ao1 (zao1.set x2.toNat qd7_0).length cap2⟩, ⟨23, [], .int .i64 x2⟩, ⟨24, [], .pointer (some ⟨g64, x2.toNat * 1, none⟩)⟩, ⟨25, [], .int .i64 qd11_0⟩, ⟨26, [], .pointer (some ⟨g73, x2.toNat * 1, none⟩)⟩, ⟨27, [], .pointer (some ⟨g79, x3.toNat * 1, none⟩)⟩] a := by rw [hl182]; exact hFx.region (by kernel_rfl) (by kernel_rfl)
    clear hFx
    refine sox hF183 hMx 0 hs181 (T := (tyInt .i64)) (xs := zao1.set x2.toNat qd7_0) x3.toNat qd11_0 (u := .int .i64 qd11_0) (nog rfl _) rfl rfl (by kernel_rfl) rfl (by kernel_rfl) rfl (by kernel_rfl) (by simp only [List.length_set] at *; omega) rfl ?_; intro wd184 hM185; clear hMx
    refine nl (qnI (hJ _ _ ?_)); clear hJ J
    rw [hl182] at hF183
    exact ⟨g51, g64, g73, g79, .slice ao1 zao1.length cap2, .int .i64 x2, .slice ao1 zao1.length cap2, .int .i64 x3, .slice ao1 zao1.length cap2, .int .i64 x3, .pointer (some ⟨g51, x3.toNat * 1, none⟩), .int .i64 qd7_0, .slice ao1 zao1.length cap2, .int .i64 x2, .pointer (some ⟨g64, x2.toNat * 1, none⟩), .int .i64 qd11_0, .pointer (some ⟨g73, x2.toNat * 1, none⟩), .pointer (some ⟨g79, x3.toNat * 1, none⟩), .own (tyInt .i64) 3 ao1 cap2 ((zao1.set x2.toNat qd7_0).set x3.toNat qd11_0), hle91, hF183.region (by kernel_rfl) (by kernel_rfl), hM185.perm (List.Perm.refl _), (fun _ => by first | rfl | rw [hl182]), (fun _ => by first | rfl | rw [hl182]), (fun _ => by first | rfl | rw [hl182]), (fun _ => by first | rfl | rw [hl182]), (fun _ => by first | rfl | rw [hl182]), (fun _ => by first | rfl | rw [hl182]), (fun _ => by first | rfl | rw [hl182]), (fun _ => by first | rfl | rw [hl182]), (fun _ => by first | rfl | rw [hl182]), (fun _ => by first | rfl | rw [hl182]), (fun _ => by first | rfl | rw [hl182]), (fun _ => by first | rfl | rw [hl182]), (fun _ => by first | rfl | rw [hl182]), (fun _ => by first | rfl | rw [hl182]), (tn hx13), (fun _ => nu), kf, (fun _ => hs178), (fun _ => hs179), (fun _ => hs180), (fun _ => hs181)⟩
  case hE =>
   intro S hS a187 wd188 hI; refine Go.Sy.hid ?_; intro G hG; obtain ⟨g51, hI⟩ := hI; obtain ⟨g64, hI⟩ := hI; obtain ⟨g73, hI⟩ := hI; obtain ⟨g79, hI⟩ := hI; obtain ⟨ud14, hI⟩ := hI; obtain ⟨ud15, hI⟩ := hI; obtain ⟨ud16, hI⟩ := hI; obtain ⟨ud17, hI⟩ := hI; obtain ⟨ud18, hI⟩ := hI; obtain ⟨ud19, hI⟩ := hI; obtain ⟨ud20, hI⟩ := hI; obtain ⟨ud21, hI⟩ := hI; obtain ⟨ud22, hI⟩ := hI; obtain ⟨ud23, hI⟩ := hI; obtain ⟨ud24, hI⟩ := hI; obtain ⟨ud25, hI⟩ := hI; obtain ⟨ud26, hI⟩ := hI; obtain ⟨ud27, hI⟩ := hI; obtain ⟨rh0, hI⟩ := hI; obtain ⟨hle91, hI⟩ := hI; obtain ⟨hFx, hI⟩ := hI; obtain ⟨hMx, hI⟩ := hI; obtain ⟨cu14, hI⟩ := hI; obtain ⟨cu15, hI⟩ := hI; obtain ⟨cu16, hI⟩ := hI; obtain ⟨cu17, hI⟩ := hI; obtain ⟨cu18, hI⟩ := hI; obtain ⟨cu19, hI⟩ := hI; obtain ⟨cu20, hI⟩ := hI; obtain ⟨cu21, hI⟩ := hI; obtain ⟨cu22, hI⟩ := hI; obtain ⟨cu23, hI⟩ := hI; obtain ⟨cu24, hI⟩ := hI; obtain ⟨cu25, hI⟩ := hI; obtain ⟨cu26, hI⟩ := hI; obtain ⟨cu27, hI⟩ := hI; obtain ⟨cr0_0, hI⟩ := hI; obtain ⟨cr0_1, hI⟩ := hI; obtain ⟨cr0_2, hI⟩ := hI; obtain ⟨cf0, hI⟩ := hI; obtain ⟨cf1, hI⟩ := hI; obtain ⟨cf2, hI⟩ := hI; have cf3 := hI; clear hI; refine hG ?_; clear hG G
   obtain rfl := cu14 (hS 0 (by decide))
   obtain rfl := cu15 (hS 1 (by decide))
   obtain rfl := cu16 (hS 2 (by decide))
   obtain rfl := cu17 (hS 3 (by decide))
   obtain rfl := cu18 (hS 4 (by decide))
   obtain rfl := cu19 (hS 5 (by decide))
   obtain rfl := cu20 (hS 6 (by decide))
   obtain rfl := cu21 (hS 7 (by decide))
   obtain rfl := cu22 (hS 8 (by decide))
   obtain rfl := cu23 (hS 9 (by decide))
   obtain rfl := cu24 (hS 10 (by decide))
   obtain rfl := cu25 (hS 11 (by decide))
   obtain rfl := cu26 (hS 12 (by decide))
   obtain rfl := cu27 (hS 14 (by decide))
   obtain rfl := cr0_2 (hS 15 (by decide))
   have hle0 := Fz.le.trans hle0 hle91
   have hs189 := cf0 (hS 6 (by decide))
   have hs190 := cf1 (hS 10 (by decide))
   have hs191 := cf2 (hS 12 (by decide))
   have hs192 := cf3 (hS 14 (by decide))
   have hl193 : ((zao1.set x2.toNat qd7_0).set x3.toNat qd11_0).length = zao1.length := by simp; try omega
   have hF194 : Fr 28 [] [⟨0, [], .slice ao1 ((zao1.set x2.toNat qd7_0).set x3.toNat qd11_0).length cap2⟩, ⟨2, [], .int .i64 x2⟩, ⟨3, [], .int .i64 x3⟩, ⟨14, [], .slice ao1 ((zao1.set x2.toNat qd7_0).set x3.toNat qd11_0).length cap2⟩, ⟨15, [], .int .i64 x2⟩, ⟨16, [], .slice ao1 ((zao1.set x2.toNat qd7_0).set x3.toNat qd11_0).length cap2⟩, ⟨17, [], .int .i64 x3⟩, ⟨18, [], .slice ao1 ((zao1.set x2.toNat qd7_0).set x3.toNat qd11_0).length cap2⟩, ⟨19, [], .int .i64 x3⟩, ⟨20, [], .pointer (some ⟨g51, x3.toNat * 1, none⟩)⟩, ⟨21, [], .int .i64 qd7_0⟩, ⟨22, [], .slice ao1 ((zao1.set x2.toNat qd7_0).set x3.toNat qd11_0).length cap2⟩, ⟨23, [], .int .i64 x2⟩, ⟨24, [], .pointer (some ⟨g64, x2.toNat * 1, none⟩)⟩, ⟨25, [], .int .i64 qd11_0⟩, ⟨26, [], .pointer (some ⟨g73, x2.toNat * 1, none⟩)⟩, ⟨27, [], .pointer (some ⟨g79, x3.toNat * 1, none⟩)⟩] a187 := by rw [hl193]; exact hFx.region (by kernel_rfl) (by kernel_rfl)
   clear hFx
   refine ibn ?_
   refine thn ?_
   have hF195 : Fr 28 [] [⟨0, [], .slice ao1 ((zao1.set x2.toNat qd7_0).set x3.toNat qd11_0).length cap2⟩, ⟨2, [], .int .i64 x2⟩, ⟨3, [], .int .i64 x3⟩] a187 := hF194.region (by kernel_rfl) (by kernel_rfl); clear hF194
   refine rgH ?_; intro hQ196Q hQ196
   refine s1 hF195 10 (.int .i64 x2) ?_; intro a197 hF198; clear hF195
   refine s1 hF198 11 (.int .i64 (w64 (x2 + 1))) ?_; intro a199 hF200; clear hF198
   refine s1 hF200 12 (.int .i64 x3) ?_; intro a201 hF202; clear hF200
   refine s1 hF202 13 (.int .i64 (w64 (x3 - 1))) ?_; intro a203 hF204; clear hF202
   refine s1 hF204 2 (.int .i64 (w64 (x2 + 1))) ?_; intro a205 hF206; clear hF204
   refine s1 hF206 3 (.int .i64 (w64 (x3 - 1))) ?_; intro a207 hF208; clear hF206
   refine nlH (hQ196 _ _ ?_); clear hQ196 hQ196Q
   refine rd ?_
   exact ⟨⟨w64 (x2 + 1), w64 (x3 - 1), (zao1.set x2.toNat qd7_0).set x3.toNat qd11_0⟩, hp90.1, hp90.2, (hF208.region (by kernel_rfl) (by kernel_rfl)).anyβ _ (by kernel_rfl), hMx.keep (List.Sublist.cons_cons _ (List.Sublist.refl _))⟩
 · -- no
  have hp209 := hp28.2 hb36; clear hp28
  refine wp_exit ?_
  refine thx ?_
  refine thx ?_
  refine ibx ?_
  have hc210 := hp209.1; have hp211 := hp209.2; clear hp209
  refine rN (fn := Tryd.f22) (v := .tuple #[]) hF35 (re0 hF35 (fn := Tryd.f22) rfl) ?_
  exact ⟨zao1, Z, rfl, hp211, hle0, hc210, hM27.keep (List.Sublist.cons_cons _ (List.Sublist.refl _))⟩

end Go.Proofs.YtmbdcehmeiiaoaaDoor
