/- The walks, made by program: each call does what its pure predicate says. -/
import Derived.Test.YtmbdcehmeiiaoaaDoorPT
import Derived.Test.YtmbdcehmeiiaoaaDoorWS
import Derived.Test.YtmbdcehmeiiaoaaDoorWL
set_option linter.unusedVariables false
set_option linter.unusedSimpArgs false
namespace Go.Proofs.YtmbdcehmeiiaoaaDoor
open Go.Sy Go.RowKit
theorem rname_fun (u0 : Frame) (hpre : fcheckfr u0 = 0) (ao1 : Option Addr) (cap2 : Nat) (Z : Fz) (w : World) (hs3 : SlR (tyInt .u8) Z ao1 cap2 u0.Data) (hg5 : SlR (tyInt .u8) Z (some ⟨5, 0, none⟩) 64 deBruijn64) (hZ : Z.on w) : Calls Tryd.prog 26 #[.agg #[.int .i64 u0.ID, .bool u0.Long, .bool u0.Fast, .bool u0.Remote, .int .i64 u0.Size, .slice ao1 u0.Data.length cap2]] w fun e w' => e = .returned (str (fnameS u0)) ∧ Below w.heap.size w w' :=
  (rname_walk u0 ao1 cap2 Z w hs3 hg5 hZ (rname_ok u0 hpre)).mono fun _ _ ⟨r, he, hk, hb⟩ => ⟨by subst hk; exact he, hb⟩

theorem rcheckfr_fun (u0 : Frame) (ao1 : Option Addr) (cap2 : Nat) (Z : Fz) (w : World) (hs3 : SlR (tyInt .u8) Z ao1 cap2 u0.Data) (hZ : Z.on w) : Calls Tryd.prog 25 #[.agg #[.int .i64 u0.ID, .bool u0.Long, .bool u0.Fast, .bool u0.Remote, .int .i64 u0.Size, .slice ao1 u0.Data.length cap2]] w fun e w' => e = .returned (.int .i64 (fcheckfr u0)) ∧ Below w.heap.size w w' :=
  (rcheckfr_walk u0 ao1 cap2 Z w hs3 hZ (rcheckfr_ok u0)).mono fun _ _ ⟨r, he, hk, hb⟩ => ⟨by subst hk; exact he, hb⟩

theorem smin_fun (u0 : List (List UInt8)) (hpre : 0 < u0.length) (ao1 : Option Addr) (cap2 : Nat) (Z : Fz) (w : World) (hs3 : SlR tyStr Z ao1 cap2 u0) (hZ : Z.on w) : Calls Tryd.prog 27 #[.slice ao1 u0.length cap2] w fun e w' => e = .returned (str (minR u0)) ∧ Below w.heap.size w w' :=
  (smin_walk u0 ao1 cap2 Z w hs3 hZ (smin_ok u0 hpre)).mono fun _ _ ⟨r, he, hk, hb⟩ => ⟨by subst hk; exact he, hb⟩

theorem ssindex_fun (u0 : List (List UInt8)) (u1 : List UInt8) (ao1 : Option Addr) (cap2 : Nat) (Z : Fz) (w : World) (hs3 : SlR tyStr Z ao1 cap2 u0) (hZ : Z.on w) : Calls Tryd.prog 28 #[.slice ao1 u0.length cap2, str u1] w fun e w' => e = .returned (.int .i64 (ssidxS u0 u1)) ∧ Below w.heap.size w w' :=
  (ssindex_walk u0 u1 ao1 cap2 Z w hs3 hZ (ssindex_ok2 u0 u1)).mono fun _ _ ⟨r, he, hk, hb⟩ => ⟨by subst hk; exact he, hb⟩

set_option maxRecDepth 100000 in
set_option maxHeartbeats 0 in
theorem LFirst_walk (u0 : List Frame) (ao1 : Option Addr) (cap2 : Nat) (Z : Fz) (w : World) (hs3 : SlR tyFrame Z ao1 cap2 u0) (hg5 : SlR (tyInt .u8) Z (some ⟨5, 0, none⟩) 64 deBruijn64) (hZ : Z.on w) {K : Bool → Prop} (hp : LFirst_vc u0 K) : Calls Tryd.prog 9 #[.slice ao1 u0.length cap2] w fun e w' => ∃ r : Bool, e = .returned (.bool r) ∧ K r ∧ Below w.heap.size w w' := by
 refine enter0 Tryd.func9 rfl rfl (by kernel_rfl) ?_; intro a0 hF0; have hM0 := Mem.start w Z hZ; have hle0 := Fz.le.refl Z
 have hp4 := hp (hs3.small); clear hp
 refine sqH ?_; intro hQ5Q hQ5
 refine s1 hF0 2 (.bool false) ?_; intro a6 hF7; clear hF0
 refine nlH (hQ5 _ _ ?_); clear hQ5 hQ5Q
 refine sqH ?_; intro hQ8Q hQ8
 refine s1 hF7 14 (.slice ao1 u0.length cap2) ?_; intro a9 hF10; clear hF7
 refine fcl hF10 hM0 (.tuple #[.int .i64 ((firstS u0).1), .int .i64 ((firstS u0).2)]) 24 #[.slice ao1 u0.length cap2] (nog rfl _) rfl (by kernel_rfl) (fun _ => by kernel_rfl) (wfirst_fun u0 ao1 cap2 _ _ hs3 hM0.fz) ?_; intro a11 wd13 hF12 hM14; clear hF10 hM0
 refine s1 hF12 13 (.tuple #[.int .i64 ((firstS u0).1), .int .i64 ((firstS u0).2)]) ?_; intro a15 hF16; clear hF12
 refine s1 hF16 16 (.int .i64 ((firstS u0).1)) ?_; intro a17 hF18; clear hF16
 refine s1 hF18 17 (.int .i64 ((firstS u0).2)) ?_; intro a19 hF20; clear hF18
 refine s1 hF20 3 (.int .i64 ((firstS u0).1)) ?_; intro a21 hF22; clear hF20
 refine s1 hF22 4 (.int .i64 ((firstS u0).2)) ?_; intro a23 hF24; clear hF22
 refine nlH (hQ8 _ _ ?_); clear hQ8 hQ8Q
 refine wp_seq ?_
 refine sqH ?_; intro hQ25Q hQ25
 refine fcl hF24 hM14 (.bool true) 21 #[] (nog rfl _) rfl (by kernel_rfl) (fun _ => by kernel_rfl) (wired_fun  _ _ hM14.fz) ?_; intro a26 wd28 hF27 hM29; clear hF24 hM14
 refine s1 hF27 19 (.bool false) ?_; intro a30 hF31; clear hF27
 refine s1 hF31 20 (.bool false) ?_; intro a32 hF33; clear hF31
 refine st hF33 (.slice ao1 u0.length cap2) (by rw [wanted_of hF33 (b := false) rfl rfl (by kernel_rfl) (by kernel_rfl)]; rfl) rfl (by kernel_rfl) (p0 hF33 (by kernel_rfl)) ?_; intro a34 hF35; clear hF33
 refine st hF35 (.int .i64 (u0.length : Int)) (by rw [wanted_of hF35 (b := false) rfl rfl (by kernel_rfl) (by kernel_rfl)]; rfl) rfl (by kernel_rfl) (p0 hF35 (by kernel_rfl)) ?_; intro a36 hF37; clear hF35
 refine st hF37 (.bool (decide ((u0.length : Int) > 6))) (by rw [wanted_of hF37 (b := false) rfl rfl (by kernel_rfl) (by kernel_rfl)]; rfl) rfl (by kernel_rfl) (p0 hF37 (by kernel_rfl)) ?_; intro a38 hF39; clear hF37
 refine s1 hF39 24 (.bool (decide ((u0.length : Int) > 6))) ?_; intro a40 hF41; clear hF39
 refine nlH (hQ25 _ _ ?_); clear hQ25 hQ25Q
 refine cd hF41 (t := decide ((u0.length : Int) > 6)) (by kernel_rfl) (fun hb42 => ?_) (fun hb42 => ?_)
 · -- yes
  have hp43 := hp4.1 hb42; clear hp4
  have hF44 : Fr 97 [] [⟨3, [], .int .i64 ((firstS u0).1)⟩, ⟨4, [], .int .i64 ((firstS u0).2)⟩] a40 := hF41.region (by kernel_rfl) (by kernel_rfl); clear hF41
  refine sqH ?_; intro hQ45Q hQ45
  refine fcl hF44 hM29 (.bool true) 21 #[] (nog rfl _) rfl (by kernel_rfl) (fun _ => by kernel_rfl) (wired_fun  _ _ hM29.fz) ?_; intro a46 wd48 hF47 hM49; clear hF44 hM29
  refine s1 hF47 26 (.bool true) ?_; intro a50 hF51; clear hF47
  refine st hF51 (.int .i64 ((firstS u0).2)) (by rw [wanted_of hF51 (b := true) rfl rfl (by kernel_rfl) (by kernel_rfl)]; rfl) rfl (by kernel_rfl) (p0 hF51 (by kernel_rfl)) ?_; intro a52 hF53; clear hF51
  refine st hF53 (.bool (((firstS u0).2) == 2)) (by rw [wanted_of hF53 (b := true) rfl rfl (by kernel_rfl) (by kernel_rfl)]; rfl) rfl (by kernel_rfl) (p0 hF53 (by kernel_rfl)) ?_; intro a54 hF55; clear hF53
  refine s1 hF55 29 (.bool (((firstS u0).2) == 2)) ?_; intro a56 hF57; clear hF55
  refine s1 hF57 30 (.bool (((firstS u0).2) == 2)) ?_; intro a58 hF59; clear hF57
  have hF60 := hF59.atom ((((firstS u0).2) == 2) == true) (by kernel_rfl); clear hF59
  refine gp hF60 31 0 [] (((firstS u0).2) == 2) (.int .i64 ((firstS u0).1)) rfl rfl ?_; intro a61 hF62; clear hF60
  refine gp hF62 32 0 [] (((firstS u0).2) == 2) (.bool (((firstS u0).1) == 0)) rfl rfl ?_; intro a63 hF64; clear hF62
  refine st hF64 (.bool ((((firstS u0).2) == 2) && (((firstS u0).1) == 0))) (nog rfl _) rfl (by kernel_rfl) (pk_and hF64 (g := []) (m := 0) (b := ((firstS u0).2) == 2) (v := ((firstS u0).1) == 0) rfl (by kernel_rfl) (by kernel_rfl) (by kernel_rfl) rfl) ?_; intro a65 hF66; clear hF64
  refine s1 hF66 2 (.bool ((((firstS u0).2) == 2) && (((firstS u0).1) == 0))) ?_; intro a67 hF68; clear hF66
  refine nlH (hQ45 _ _ ?_); clear hQ45 hQ45Q
  refine wp_ret ?_
  refine thr ?_
  refine rt (fn := Tryd.f9) (v := .bool ((((firstS u0).2) == 2) && (((firstS u0).1) == 0))) hF68 (re1 hF68 (fn := Tryd.f9) rfl (by kernel_rfl)) ?_
  exact ⟨(((firstS u0).2) == 2) && (((firstS u0).1) == 0), rfl, hp43, hM49.below⟩
 · -- no
  have hp69 := hp4.2 hb42; clear hp4
  refine wp_skip ?_
  refine thn ?_
  have hF70 : Fr 97 [] [⟨0, [], .slice ao1 u0.length cap2⟩, ⟨3, [], .int .i64 ((firstS u0).1)⟩, ⟨4, [], .int .i64 ((firstS u0).2)⟩] a40 := hF41.region (by kernel_rfl) (by kernel_rfl); clear hF41
  refine sqH ?_; intro hQ71Q hQ71
  refine s1 hF70 5 (.slice none 0 0) ?_; intro a72 hF73; clear hF70
  refine nlH (hQ71 _ _ ?_); clear hQ71 hQ71Q
  refine wp_seq ?_
  refine sqH ?_; intro hQ74Q hQ74
  refine s1 hF73 34 (.slice ao1 u0.length cap2) ?_; intro a75 hF76; clear hF73
  refine s1 hF76 35 (.int .i64 (u0.length : Int)) ?_; intro a77 hF78; clear hF76
  refine s1 hF78 36 (.int .i64 0) ?_; intro a79 hF80; clear hF78
  refine nlH (hQ74 _ _ ?_); clear hQ74 hQ74Q
  refine wp_block ?_
  have hF81 : Fr 97 [] [⟨0, [], .slice ao1 u0.length cap2⟩, ⟨3, [], .int .i64 ((firstS u0).1)⟩, ⟨4, [], .int .i64 ((firstS u0).2)⟩, ⟨5, [], .slice none 0 0⟩, ⟨34, [], .slice ao1 u0.length cap2⟩, ⟨35, [], .int .i64 (u0.length : Int)⟩, ⟨36, [], .int .i64 0⟩] a79 := hF80.region (by kernel_rfl) (by kernel_rfl); clear hF80
  have hM83 : Mem w.heap.size [] w Z [.own tyStr 9 none 0 ([] : List (List UInt8))] Z wd28 := hM29.addNil tyStr 9 (by decide); clear hM29
  have hF84 : Fr 97 [] [⟨0, [], .slice ao1 u0.length cap2⟩, ⟨3, [], .int .i64 ((firstS u0).1)⟩, ⟨4, [], .int .i64 ((firstS u0).2)⟩, ⟨5, [], .slice none ([] : List (List UInt8)).length 0⟩, ⟨34, [], .slice ao1 u0.length cap2⟩, ⟨35, [], .int .i64 (u0.length : Int)⟩, ⟨36, [], .int .i64 0⟩] a79 := hF81.region (by kernel_rfl) (by kernel_rfl); clear hF81
  obtain ⟨inv82, mu82, hI87, hr86⟩ := hp69
  refine lp (ι := (List (List UInt8)) × Int × (Option Addr) × Nat) (fun (s : (List (List UInt8)) × Int × (Option Addr) × Nat) => [⟨0, [], .slice ao1 u0.length cap2⟩, ⟨3, [], .int .i64 ((firstS u0).1)⟩, ⟨4, [], .int .i64 ((firstS u0).2)⟩, ⟨5, [], .slice s.2.2.1 s.1.length s.2.2.2⟩, ⟨34, [], .slice ao1 u0.length cap2⟩, ⟨35, [], .int .i64 (u0.length : Int)⟩, ⟨36, [], .int .i64 s.2.1⟩]) (fun (s : (List (List UInt8)) × Int × (Option Addr) × Nat) => [.own tyStr 9 s.2.2.1 s.2.2.2 s.1]) (fun (s : (List (List UInt8)) × Int × (Option Addr) × Nat) => Z) (fun (s : (List (List UInt8)) × Int × (Option Addr) × Nat) => inv82 s.1 s.2.1) (fun (s : (List (List UInt8)) × Int × (Option Addr) × Nat) => mu82 s.1 s.2.1) ⟨([] : List (List UInt8)), 0, none, 0⟩ hI87 (by exact hF84.region (by kernel_rfl) (by kernel_rfl)) (by exact hM83) ?_
  rintro ⟨x5, x36, aox5, capx5⟩ hI85 a89 wd90 hF91 hM92
  have hF93 : Fr 97 [] [⟨0, [], .slice ao1 u0.length cap2⟩, ⟨3, [], .int .i64 ((firstS u0).1)⟩, ⟨4, [], .int .i64 ((firstS u0).2)⟩, ⟨5, [], .slice aox5 x5.length capx5⟩, ⟨34, [], .slice ao1 u0.length cap2⟩, ⟨35, [], .int .i64 (u0.length : Int)⟩, ⟨36, [], .int .i64 x36⟩] a89 := hF91; clear hF91 hF84
  have hM94 : Mem w.heap.size [] w Z [.own tyStr 9 aox5 capx5 x5] Z wd90 := hM92; clear hM92 hM83
  have hp95 := hr86 x5 x36 hI85
  refine sqH ?_; intro hQ96Q hQ96
  refine s1 hF93 37 (.bool (decide (x36 < (u0.length : Int)))) ?_; intro a97 hF98; clear hF93
  refine nlH (hQ96 _ _ ?_); clear hQ96 hQ96Q
  refine wp_seq ?_
  refine cd hF98 (t := decide (x36 < (u0.length : Int))) (by kernel_rfl) (fun hb99 => ?_) (fun hb99 => ?_)
  · -- yes
   have hp100 := hp95.1 hb99; clear hp95
   refine wp_skip ?_
   refine thn ?_
   refine wp_seq ?_
   refine wp_block ?_
   refine sqH ?_; intro hQ101Q hQ101
   have hc102 := hp100.1; have hp103 := hp100.2; clear hp100
   refine ix hF98 (T := tyFrame) (xs := u0) hs3 x36 hc102 (k := .i64) (e := 24) (bytes := 48) (nog rfl _) rfl (by kernel_rfl) rfl (by kernel_rfl) (by kernel_rfl) (by kernel_rfl) ?_; intro b104 off105 cs106 q107 a111 hq108 hP109 hT110 hF112; clear hF98
   have hp113 := hp103 q107 hq108; clear hp103
   obtain ⟨ao114, cap115, rfl, hs116⟩ := hT110
   have hp117 := hp113 (hs116.small); clear hp113
   refine z2 hF112 hM94 39 hP109 0 6 [.int .i64 q107.ID, .bool q107.Long, .bool q107.Fast, .bool q107.Remote, .int .i64 q107.Size, .slice ao114 q107.Data.length cap115] rfl ?_; intro a118 hF119; clear hF112
   refine sn hF119 hM94 (fun b => .pointer (some ⟨b, 0, none⟩)) [.int .i64 0, .bool false, .bool false, .bool false, .int .i64 0, .slice none 0 0] 24 (nog rfl _) rfl (by kernel_rfl) (by kernel_rfl) ?_; intro b120 a121 wd123 hF122 hM124; clear hF119 hM94
   refine sr hF122 hM124 0 [.int .i64 q107.ID, .bool q107.Long, .bool q107.Fast, .bool q107.Remote, .int .i64 q107.Size, .slice ao114 q107.Data.length cap115] (b := b120) (off := 0) (cs := [.int .i64 0, .bool false, .bool false, .bool false, .int .i64 0, .slice none 0 0]) (ty := 24) (u := .agg #[.int .i64 q107.ID, .bool q107.Long, .bool q107.Fast, .bool q107.Remote, .int .i64 q107.Size, .slice ao114 q107.Data.length cap115]) (nog rfl _) rfl rfl (by kernel_rfl) (by kernel_rfl) (by kernel_rfl) (by kernel_rfl) (by kernel_rfl) (by kernel_rfl) (by kernel_rfl) ?_; intro wd125 hM126; clear hM124
   have hM127 : Mem w.heap.size [] w Z [.row b120 [.int .i64 q107.ID, .bool q107.Long, .bool q107.Fast, .bool q107.Remote, .int .i64 q107.Size, .slice ao114 q107.Data.length cap115] 24, .own tyStr 9 aox5 capx5 x5] Z wd125 := hM126; clear hM126
   refine nlH (hQ101 _ _ ?_); clear hQ101 hQ101Q
   refine wp_seq ?_
   refine sqH ?_; intro hQ128Q hQ128
   refine l2 hF122 hM127 40 0 0 6 [.int .i64 q107.ID, .bool q107.Long, .bool q107.Fast, .bool q107.Remote, .int .i64 q107.Size, .slice ao114 q107.Data.length cap115] rfl rfl ?_; intro a129 hF130; clear hF122
   refine fcl hF130 hM127 (.int .i64 (fcheckfr q107)) 25 #[.agg #[.int .i64 q107.ID, .bool q107.Long, .bool q107.Fast, .bool q107.Remote, .int .i64 q107.Size, .slice ao114 q107.Data.length cap115]] (nog rfl _) rfl (by kernel_rfl) (fun _ => by kernel_rfl) (rcheckfr_fun q107 ao114 cap115 _ _ hs116 hM127.fz) ?_; intro a131 wd133 hF132 hM134; clear hF130 hM127
   refine s1 hF132 8 (.int .i64 (fcheckfr q107)) ?_; intro a135 hF136; clear hF132
   refine nlH (hQ128 _ _ ?_); clear hQ128 hQ128Q
   refine sqH ?_; intro hQ137Q hQ137
   refine s1 hF136 42 (.int .i64 (fcheckfr q107)) ?_; intro a138 hF139; clear hF136
   refine s1 hF139 43 (.bool ((fcheckfr q107) != 0)) ?_; intro a140 hF141; clear hF139
   refine nlH (hQ137 _ _ ?_); clear hQ137 hQ137Q
   refine cd hF141 (t := (fcheckfr q107) != 0) (by kernel_rfl) (fun hb142 => ?_) (fun hb142 => ?_)
   · -- yes
    have hp143 := hp117.1 hb142; clear hp117
    refine sqH ?_; intro hQ144Q hQ144
    refine s1 hF141 44 (.int .i64 ((firstS u0).2)) ?_; intro a145 hF146; clear hF141
    refine s1 hF146 45 (.int .i64 (fcheckfr q107)) ?_; intro a147 hF148; clear hF146
    refine s1 hF148 46 (.bool (((firstS u0).2) == (fcheckfr q107))) ?_; intro a149 hF150; clear hF148
    refine s1 hF150 47 (.bool (((firstS u0).2) == (fcheckfr q107))) ?_; intro a151 hF152; clear hF150
    have hF153 := hF152.atom ((((firstS u0).2) == (fcheckfr q107)) == true) (by kernel_rfl); clear hF152
    refine gp hF153 48 0 [] (((firstS u0).2) == (fcheckfr q107)) (.int .i64 ((firstS u0).1)) rfl rfl ?_; intro a154 hF155; clear hF153
    refine gp hF155 49 0 [] (((firstS u0).2) == (fcheckfr q107)) (.bool (((firstS u0).1) == 0)) rfl rfl ?_; intro a156 hF157; clear hF155
    refine st hF157 (.bool ((((firstS u0).2) == (fcheckfr q107)) && (((firstS u0).1) == 0))) (nog rfl _) rfl (by kernel_rfl) (pk_and hF157 (g := []) (m := 0) (b := ((firstS u0).2) == (fcheckfr q107)) (v := ((firstS u0).1) == 0) rfl (by kernel_rfl) (by kernel_rfl) (by kernel_rfl) rfl) ?_; intro a158 hF159; clear hF157
    refine s1 hF159 2 (.bool ((((firstS u0).2) == (fcheckfr q107)) && (((firstS u0).1) == 0))) ?_; intro a160 hF161; clear hF159
    refine nlH (hQ144 _ _ ?_); clear hQ144 hQ144Q
    refine wp_ret ?_
    refine thr ?_
    refine ibr ?_
    refine thr ?_
    refine thr ?_
    refine ibr ?_
    refine thr ?_
    refine rt (fn := Tryd.f9) (v := .bool ((((firstS u0).2) == (fcheckfr q107)) && (((firstS u0).1) == 0))) hF161 (re1 hF161 (fn := Tryd.f9) rfl (by kernel_rfl)) ?_
    exact ⟨(((firstS u0).2) == (fcheckfr q107)) && (((firstS u0).1) == 0), rfl, hp143, hM134.below⟩
   · -- no
    have hp162 := hp117.2 hb142; clear hp117
    refine wp_skip ?_
    refine thn ?_
    refine rgH ?_; intro hQ163Q hQ163
    refine s1 hF141 51 (.slice aox5 x5.length capx5) ?_; intro a164 hF165; clear hF141
    refine l2 hF165 hM134 52 0 0 6 [.int .i64 q107.ID, .bool q107.Long, .bool q107.Fast, .bool q107.Remote, .int .i64 q107.Size, .slice ao114 q107.Data.length cap115] rfl rfl ?_; intro a166 hF167; clear hF165
    have hc168 := hp162.1; have hp169 := hp162.2; clear hp162
    refine fcl hF167 hM134 (str (fnameS q107)) 26 #[.agg #[.int .i64 q107.ID, .bool q107.Long, .bool q107.Fast, .bool q107.Remote, .int .i64 q107.Size, .slice ao114 q107.Data.length cap115]] (nog rfl _) rfl (by kernel_rfl) (fun _ => by kernel_rfl) (rname_fun q107 hc168 ao114 cap115 _ _ hs116 hg5 hM134.fz) ?_; intro a170 wd172 hF171 hM173; clear hF167 hM134
    refine sn hF171 hM173 (fun b => .slice (some ⟨b, 0, none⟩) 1 1) [str (fnameS q107)] 9 (nog rfl _) rfl (by kernel_rfl) (by kernel_rfl) ?_; intro b174 a175 wd177 hF176 hM178; clear hF171 hM173
    have hc179 := hp169.1; have hp180 := hp169.2; clear hp169
    refine ap hF176 hM178 2 (T := tyStr) (xs := x5) (ys := [(fnameS q107)]) (ao := aox5) (cap := capx5) (ao2 := (some ⟨b174, 0, none⟩)) (cap2 := 1) (t := 48) (e := 9) (bytes := 16) (nog rfl _) rfl (by kernel_rfl) rfl (by kernel_rfl) (by kernel_rfl) (by kernel_rfl) rfl (Src.row hM178 0 rfl (RepAll.one (T := tyStr) (x := (fnameS q107)) rfl)) hc179 ?_; intro ao181 cap182 a186 wd183 hnil184 hF187 hM185; clear hF176 hM178
    have hM188 : Mem w.heap.size [] w Z [.row b174 [str (fnameS q107)] 9, .row b120 [.int .i64 q107.ID, .bool q107.Long, .bool q107.Fast, .bool q107.Remote, .int .i64 q107.Size, .slice ao114 q107.Data.length cap115] 24, .own tyStr 9 ao181 cap182 (x5 ++ [(fnameS q107)])] Z wd183 := hM185; clear hM185
    refine s1 hF187 5 (.slice ao181 (x5 ++ [(fnameS q107)]).length cap182) ?_; intro a189 hF190; clear hF187
    refine nlH (hQ163 _ _ ?_); clear hQ163 hQ163Q
    refine ibn ?_
    refine thn ?_
    have hF191 : Fr 97 [] [⟨0, [], .slice ao1 u0.length cap2⟩, ⟨3, [], .int .i64 ((firstS u0).1)⟩, ⟨4, [], .int .i64 ((firstS u0).2)⟩, ⟨5, [], .slice ao181 (x5 ++ [(fnameS q107)]).length cap182⟩, ⟨34, [], .slice ao1 u0.length cap2⟩, ⟨35, [], .int .i64 (u0.length : Int)⟩, ⟨36, [], .int .i64 x36⟩] a189 := hF190.region (by kernel_rfl) (by kernel_rfl); clear hF190
    refine rgH ?_; intro hQ192Q hQ192
    refine s1 hF191 56 (.int .i64 (w64 (x36 + 1))) ?_; intro a193 hF194; clear hF191
    refine s1 hF194 36 (.int .i64 (w64 (x36 + 1))) ?_; intro a195 hF196; clear hF194
    refine nlH (hQ192 _ _ ?_); clear hQ192 hQ192Q
    refine rd ?_
    exact ⟨⟨x5 ++ [(fnameS q107)], w64 (x36 + 1), ao181, cap182⟩, hp180.1, hp180.2, (hF196.region (by kernel_rfl) (by kernel_rfl)).anyβ _ (by kernel_rfl), hM188.keep (List.Sublist.cons _ (List.Sublist.cons _ (List.Sublist.cons_cons _ (List.Sublist.slnil))))⟩
  · -- no
   have hp197 := hp95.2 hb99; clear hp95
   refine wp_exit ?_
   refine thx ?_
   refine thx ?_
   refine ibx ?_
   refine thn ?_
   refine wp_seq ?_
   refine sqH ?_; intro hQ198Q hQ198
   refine s1 hF98 57 (.slice ao1 u0.length cap2) ?_; intro a199 hF200; clear hF98
   refine s1 hF200 58 (.int .i64 (u0.length : Int)) ?_; intro a201 hF202; clear hF200
   refine s1 hF202 59 (.bool ((u0.length : Int) == 0)) ?_; intro a203 hF204; clear hF202
   refine nlH (hQ198 _ _ ?_); clear hQ198 hQ198Q
   refine cd hF204 (t := (u0.length : Int) == 0) (by kernel_rfl) (fun hb205 => ?_) (fun hb205 => ?_)
   · -- yes
    have hp206 := hp197.1 hb205; clear hp197
    refine sqH ?_; intro hQ207Q hQ207
    refine s1 hF204 60 (.int .i64 ((firstS u0).2)) ?_; intro a208 hF209; clear hF204
    refine s1 hF209 61 (.bool (((firstS u0).2) == 8)) ?_; intro a210 hF211; clear hF209
    refine s1 hF211 62 (.bool (((firstS u0).2) == 8)) ?_; intro a212 hF213; clear hF211
    have hF214 := hF213.atom ((((firstS u0).2) == 8) == true) (by kernel_rfl); clear hF213
    refine gp hF214 63 0 [] (((firstS u0).2) == 8) (.int .i64 ((firstS u0).1)) rfl rfl ?_; intro a215 hF216; clear hF214
    refine gp hF216 64 0 [] (((firstS u0).2) == 8) (.bool (((firstS u0).1) == 0)) rfl rfl ?_; intro a217 hF218; clear hF216
    refine st hF218 (.bool ((((firstS u0).2) == 8) && (((firstS u0).1) == 0))) (nog rfl _) rfl (by kernel_rfl) (pk_and hF218 (g := []) (m := 0) (b := ((firstS u0).2) == 8) (v := ((firstS u0).1) == 0) rfl (by kernel_rfl) (by kernel_rfl) (by kernel_rfl) rfl) ?_; intro a219 hF220; clear hF218
    refine s1 hF220 2 (.bool ((((firstS u0).2) == 8) && (((firstS u0).1) == 0))) ?_; intro a221 hF222; clear hF220
    refine nlH (hQ207 _ _ ?_); clear hQ207 hQ207Q
    refine wp_ret ?_
    refine thr ?_
    refine rt (fn := Tryd.f9) (v := .bool ((((firstS u0).2) == 8) && (((firstS u0).1) == 0))) hF222 (re1 hF222 (fn := Tryd.f9) rfl (by kernel_rfl)) ?_
    exact ⟨(((firstS u0).2) == 8) && (((firstS u0).1) == 0), rfl, hp206, hM94.below⟩
   · -- no
    have hp223 := hp197.2 hb205; clear hp197
    refine wp_skip ?_
    refine thn ?_
    refine sqH ?_; intro hQ224Q hQ224
    refine s1 hF204 66 (.slice aox5 x5.length capx5) ?_; intro a225 hF226; clear hF204
    obtain ⟨Z227, hle228, hM229, hs230⟩ := hM94.freeze 0 rfl
    replace hs3 := hs3.mono hle228
    replace hg5 := hg5.mono hle228
    replace hle0 := Fz.le.trans hle0 hle228
    have hM231 : Mem w.heap.size [] w Z [] Z227 wd90 := hM229; clear hM229
    have hc232 := hp223.1; have hp233 := hp223.2; clear hp223
    refine fcl hF226 hM231 (str (minR x5)) 27 #[.slice aox5 x5.length capx5] (nog rfl _) rfl (by kernel_rfl) (fun _ => by kernel_rfl) (smin_fun x5 hc232 aox5 capx5 _ _ hs230 hM231.fz) ?_; intro a234 wd236 hF235 hM237; clear hF226 hM231
    refine s1 hF235 9 (str (minR x5)) ?_; intro a238 hF239; clear hF235
    refine nlH (hQ224 _ _ ?_); clear hQ224 hQ224Q
    refine sqH ?_; intro hQ240Q hQ240
    refine s1 hF239 10 (.int .i64 0) ?_; intro a241 hF242; clear hF239
    refine nlH (hQ240 _ _ ?_); clear hQ240 hQ240Q
    refine wp_seq ?_
    refine sqH ?_; intro hQ243Q hQ243
    refine s1 hF242 68 (.slice aox5 x5.length capx5) ?_; intro a244 hF245; clear hF242
    refine s1 hF245 69 (.int .i64 (x5.length : Int)) ?_; intro a246 hF247; clear hF245
    refine s1 hF247 70 (.int .i64 0) ?_; intro a248 hF249; clear hF247
    refine nlH (hQ243 _ _ ?_); clear hQ243 hQ243Q
    refine wp_block ?_
    have hF250 : Fr 97 [] [⟨3, [], .int .i64 ((firstS u0).1)⟩, ⟨4, [], .int .i64 ((firstS u0).2)⟩, ⟨5, [], .slice aox5 x5.length capx5⟩, ⟨9, [], str (minR x5)⟩, ⟨10, [], .int .i64 0⟩, ⟨68, [], .slice aox5 x5.length capx5⟩, ⟨69, [], .int .i64 (x5.length : Int)⟩, ⟨70, [], .int .i64 0⟩] a248 := hF249.region (by kernel_rfl) (by kernel_rfl); clear hF249
    have hF252 : Fr 97 [] [⟨3, [], .int .i64 ((firstS u0).1)⟩, ⟨4, [], .int .i64 ((firstS u0).2)⟩, ⟨5, [], .slice aox5 x5.length capx5⟩, ⟨9, [], str (minR x5)⟩, ⟨10, [], .int .i64 0⟩, ⟨68, [], .slice aox5 x5.length capx5⟩, ⟨69, [], .int .i64 (x5.length : Int)⟩, ⟨70, [], .int .i64 0⟩] a248 := hF250.region (by kernel_rfl) (by kernel_rfl); clear hF250
    obtain ⟨inv251, mu251, hI255, hr254⟩ := hp233
    refine lp (ι := Int × Int) (fun (s : Int × Int) => [⟨3, [], .int .i64 ((firstS u0).1)⟩, ⟨4, [], .int .i64 ((firstS u0).2)⟩, ⟨5, [], .slice aox5 x5.length capx5⟩, ⟨9, [], str (minR x5)⟩, ⟨10, [], .int .i64 s.1⟩, ⟨68, [], .slice aox5 x5.length capx5⟩, ⟨69, [], .int .i64 (x5.length : Int)⟩, ⟨70, [], .int .i64 s.2⟩]) (fun (s : Int × Int) => []) (fun (s : Int × Int) => Z227) (fun (s : Int × Int) => inv251 s.1 s.2) (fun (s : Int × Int) => mu251 s.1 s.2) ⟨0, 0⟩ hI255 (by exact hF252.region (by kernel_rfl) (by kernel_rfl)) (by exact hM237) ?_
    rintro ⟨x10, x70⟩ hI253 a257 wd258 hF259 hM260
    have hF261 : Fr 97 [] [⟨3, [], .int .i64 ((firstS u0).1)⟩, ⟨4, [], .int .i64 ((firstS u0).2)⟩, ⟨5, [], .slice aox5 x5.length capx5⟩, ⟨9, [], str (minR x5)⟩, ⟨10, [], .int .i64 x10⟩, ⟨68, [], .slice aox5 x5.length capx5⟩, ⟨69, [], .int .i64 (x5.length : Int)⟩, ⟨70, [], .int .i64 x70⟩] a257 := hF259; clear hF259 hF252
    have hM262 : Mem w.heap.size [] w Z [] Z227 wd258 := hM260; clear hM260 hM237
    have hp263 := hr254 x10 x70 hI253
    refine sqH ?_; intro hQ264Q hQ264
    refine s1 hF261 71 (.bool (decide (x70 < (x5.length : Int)))) ?_; intro a265 hF266; clear hF261
    refine nlH (hQ264 _ _ ?_); clear hQ264 hQ264Q
    refine wp_seq ?_
    refine cd hF266 (t := decide (x70 < (x5.length : Int))) (by kernel_rfl) (fun hb267 => ?_) (fun hb267 => ?_)
    · -- yes
     have hp268 := hp263.1 hb267; clear hp263
     refine wp_skip ?_
     refine thn ?_
     refine wp_seq ?_
     refine wp_block ?_
     refine sqH ?_; intro hQ269Q hQ269
     have hc270 := hp268.1; have hp271 := hp268.2; clear hp268
     refine ix hF266 (T := tyStr) (xs := x5) hs230 x70 hc270 (k := .i64) (e := 9) (bytes := 16) (nog rfl _) rfl (by kernel_rfl) rfl (by kernel_rfl) (by kernel_rfl) (by kernel_rfl) ?_; intro b272 off273 cs274 q275 a279 hq276 hP277 hT278 hF280; clear hF266
     have hp281 := hp271 q275 hq276; clear hp271
     obtain rfl : cs274 = ([str q275] : List Value) := hT278
     refine z1 hF280 hM262 73 hP277 0 (str q275) rfl ?_; intro a282 hF283; clear hF280
     refine s1 hF283 12 (str q275) ?_; intro a284 hF285; clear hF283
     refine nlH (hQ269 _ _ ?_); clear hQ269 hQ269Q
     refine sqH ?_; intro hQ286Q hQ286
     refine s1 hF285 74 (str q275) ?_; intro a287 hF288; clear hF285
     refine s1 hF288 75 (str (minR x5)) ?_; intro a289 hF290; clear hF288
     refine st hF290 (.bool (q275 == (minR x5))) (nog rfl _) rfl (by kernel_rfl) (strcmp_run hF290 (g := []) (op := .eql) rfl (by kernel_rfl) (by kernel_rfl) (by decide) rfl) ?_; intro a291 hF292; clear hF290
     refine nlH (hQ286 _ _ ?_); clear hQ286 hQ286Q
     refine cd hF292 (t := q275 == (minR x5)) (by kernel_rfl) (fun hb293 => ?_) (fun hb293 => ?_)
     · -- yes
      have hp294 := hp281.1 hb293; clear hp281
      refine rgH ?_; intro hQ295Q hQ295
      refine s1 hF292 77 (.int .i64 x10) ?_; intro a296 hF297; clear hF292
      refine s1 hF297 78 (.int .i64 (w64 (x10 + 1))) ?_; intro a298 hF299; clear hF297
      refine s1 hF299 10 (.int .i64 (w64 (x10 + 1))) ?_; intro a300 hF301; clear hF299
      refine nlH (hQ295 _ _ ?_); clear hQ295 hQ295Q
      refine ibn ?_
      refine thn ?_
      refine rgH ?_; intro hQ302Q hQ302
      refine s1 hF301 79 (.int .i64 (w64 (x70 + 1))) ?_; intro a303 hF304; clear hF301
      refine s1 hF304 70 (.int .i64 (w64 (x70 + 1))) ?_; intro a305 hF306; clear hF304
      refine nlH (hQ302 _ _ ?_); clear hQ302 hQ302Q
      refine rd ?_
      exact ⟨⟨w64 (x10 + 1), w64 (x70 + 1)⟩, hp294.1, hp294.2, (hF306.region (by kernel_rfl) (by kernel_rfl)).anyβ _ (by kernel_rfl), hM262.keep (List.Sublist.slnil)⟩
     · -- no
      have hp307 := hp281.2 hb293; clear hp281
      refine wp_skip ?_
      refine ibn ?_
      refine thn ?_
      refine rgH ?_; intro hQ308Q hQ308
      refine s1 hF292 79 (.int .i64 (w64 (x70 + 1))) ?_; intro a309 hF310; clear hF292
      refine s1 hF310 70 (.int .i64 (w64 (x70 + 1))) ?_; intro a311 hF312; clear hF310
      refine nlH (hQ308 _ _ ?_); clear hQ308 hQ308Q
      refine rd ?_
      exact ⟨⟨x10, w64 (x70 + 1)⟩, hp307.1, hp307.2, (hF312.region (by kernel_rfl) (by kernel_rfl)).anyβ _ (by kernel_rfl), hM262.keep (List.Sublist.slnil)⟩
    · -- no
     have hp313 := hp263.2 hb267; clear hp263
     refine wp_exit ?_
     refine thx ?_
     refine thx ?_
     refine ibx ?_
     refine thn ?_
     refine wp_seq ?_
     refine sqH ?_; intro hQ314Q hQ314
     refine s1 hF266 80 (.int .i64 x10) ?_; intro a315 hF316; clear hF266
     refine s1 hF316 81 (.bool (decide (x10 > 1))) ?_; intro a317 hF318; clear hF316
     refine nlH (hQ314 _ _ ?_); clear hQ314 hQ314Q
     refine cd hF318 (t := decide (x10 > 1)) (by kernel_rfl) (fun hb319 => ?_) (fun hb319 => ?_)
     · -- yes
      have hp320 := hp313.1 hb319; clear hp313
      refine sqH ?_; intro hQ321Q hQ321
      refine s1 hF318 82 (.int .i64 ((firstS u0).2)) ?_; intro a322 hF323; clear hF318
      refine s1 hF323 83 (.bool (((firstS u0).2) == 9)) ?_; intro a324 hF325; clear hF323
      refine s1 hF325 84 (.bool (((firstS u0).2) == 9)) ?_; intro a326 hF327; clear hF325
      have hF328 := hF327.atom ((((firstS u0).2) == 9) == true) (by kernel_rfl); clear hF327
      refine gp hF328 85 0 [] (((firstS u0).2) == 9) (.int .i64 ((firstS u0).1)) rfl rfl ?_; intro a329 hF330; clear hF328
      refine gp hF330 86 0 [] (((firstS u0).2) == 9) (.bool (((firstS u0).1) == 0)) rfl rfl ?_; intro a331 hF332; clear hF330
      refine st hF332 (.bool ((((firstS u0).2) == 9) && (((firstS u0).1) == 0))) (nog rfl _) rfl (by kernel_rfl) (pk_and hF332 (g := []) (m := 0) (b := ((firstS u0).2) == 9) (v := ((firstS u0).1) == 0) rfl (by kernel_rfl) (by kernel_rfl) (by kernel_rfl) rfl) ?_; intro a333 hF334; clear hF332
      refine s1 hF334 2 (.bool ((((firstS u0).2) == 9) && (((firstS u0).1) == 0))) ?_; intro a335 hF336; clear hF334
      refine nlH (hQ321 _ _ ?_); clear hQ321 hQ321Q
      refine wp_ret ?_
      refine thr ?_
      refine rt (fn := Tryd.f9) (v := .bool ((((firstS u0).2) == 9) && (((firstS u0).1) == 0))) hF336 (re1 hF336 (fn := Tryd.f9) rfl (by kernel_rfl)) ?_
      exact ⟨(((firstS u0).2) == 9) && (((firstS u0).1) == 0), rfl, hp320, hM262.below⟩
     · -- no
      have hp337 := hp313.2 hb319; clear hp313
      refine wp_skip ?_
      refine thn ?_
      refine sqH ?_; intro hQ338Q hQ338
      refine s1 hF318 88 (.int .i64 ((firstS u0).2)) ?_; intro a339 hF340; clear hF318
      refine s1 hF340 89 (.bool (((firstS u0).2) == 0)) ?_; intro a341 hF342; clear hF340
      refine s1 hF342 90 (.bool (((firstS u0).2) == 0)) ?_; intro a343 hF344; clear hF342
      have hF345 := hF344.atom ((((firstS u0).2) == 0) == true) (by kernel_rfl); clear hF344
      refine gp hF345 91 0 [] (((firstS u0).2) == 0) (.int .i64 ((firstS u0).1)) rfl rfl ?_; intro a346 hF347; clear hF345
      refine gp hF347 92 0 [] (((firstS u0).2) == 0) (.slice aox5 x5.length capx5) rfl rfl ?_; intro a348 hF349; clear hF347
      refine gp hF349 93 0 [] (((firstS u0).2) == 0) (str (minR x5)) rfl rfl ?_; intro a350 hF351; clear hF349
      refine gcl hF351 hM262 (.int .i64 (ssidxS x5 (minR x5))) 28 #[.slice aox5 x5.length capx5, str (minR x5)] (m := 0) (cj := []) (bj := ((firstS u0).2) == 0) rfl rfl (by kernel_rfl) rfl (by kernel_rfl) (by kernel_rfl) (by kernel_rfl) (fun _ => by kernel_rfl) (fun hg => ssindex_fun x5 (minR x5) aox5 capx5 _ _ hs230 hM262.fz) ?_; intro a352 wd354 hF353 hM355; clear hF351 hM262
      refine gp hF353 95 0 [] (((firstS u0).2) == 0) (.bool (((firstS u0).1) == (ssidxS x5 (minR x5)))) rfl rfl ?_; intro a356 hF357; clear hF353
      refine st hF357 (.bool ((((firstS u0).2) == 0) && (((firstS u0).1) == (ssidxS x5 (minR x5))))) (nog rfl _) rfl (by kernel_rfl) (pk_and hF357 (g := []) (m := 0) (b := ((firstS u0).2) == 0) (v := ((firstS u0).1) == (ssidxS x5 (minR x5))) rfl (by kernel_rfl) (by kernel_rfl) (by kernel_rfl) rfl) ?_; intro a358 hF359; clear hF357
      refine s1 hF359 2 (.bool ((((firstS u0).2) == 0) && (((firstS u0).1) == (ssidxS x5 (minR x5))))) ?_; intro a360 hF361; clear hF359
      refine nlH (hQ338 _ _ ?_); clear hQ338 hQ338Q
      refine wp_ret ?_
      refine rt (fn := Tryd.f9) (v := .bool ((((firstS u0).2) == 0) && (((firstS u0).1) == (ssidxS x5 (minR x5))))) hF361 (re1 hF361 (fn := Tryd.f9) rfl (by kernel_rfl)) ?_
      exact ⟨(((firstS u0).2) == 0) && (((firstS u0).1) == (ssidxS x5 (minR x5))), rfl, hp337, hM355.below⟩

end Go.Proofs.YtmbdcehmeiiaoaaDoor
