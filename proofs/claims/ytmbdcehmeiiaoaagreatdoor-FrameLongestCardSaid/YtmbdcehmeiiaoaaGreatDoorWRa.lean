/- The walks, made by program: each call does what its pure predicate says. -/
import Derived.Test.YtmbdcehmeiiaoaaGreatDoorPRa
import Derived.Test.YtmbdcehmeiiaoaaGreatDoorWBm
import Derived.Test.YtmbdcehmeiiaoaaGreatDoorWC
set_option linter.unusedVariables false
set_option linter.unusedSimpArgs false
namespace Go.Proofs.YtmbdcehmeiiaoaaGreatDoor
open Go.Sy Go.RowKit
set_option maxRecDepth 100000 in
set_option maxHeartbeats 0 in
theorem rofb_walk (u0 : List Int) (ao1 : Option Addr) (cap2 : Nat) (Z : Fz) (w : World) (hs3 : SlR (tyInt .u8) Z ao1 cap2 u0) (hg5 : SlR (tyInt .u8) Z (some ⟨5, 0, none⟩) 64 deBruijn64) (hZ : Z.on w) {K : (List UInt8) → Prop} (hp : rofb_vc u0 K) : Calls Tryz.prog 90 #[.slice ao1 u0.length cap2] w fun e w' => ∃ r : (List UInt8), e = .returned (str r) ∧ K r ∧ Below w.heap.size w w' := by
 refine enter0 Tryz.func90 rfl rfl (by kernel_rfl) ?_; intro a0 hF0; have hM0 := Mem.start w Z hZ; have hle0 := Fz.le.refl Z
 have hp4 := hp (hs3.small); clear hp
 refine sqH ?_; intro hQ5Q hQ5
 refine s1 hF0 2 (str []) ?_; intro a6 hF7; clear hF0
 refine nlH (hQ5 _ _ ?_); clear hQ5 hQ5Q
 refine sqH ?_; intro hQ8Q hQ8
 refine s1 hF7 3 (str []) ?_; intro a9 hF10; clear hF7
 refine nlH (hQ8 _ _ ?_); clear hQ8 hQ8Q
 refine wp_seq ?_
 refine sqH ?_; intro hQ11Q hQ11
 refine s1 hF10 7 (.slice ao1 u0.length cap2) ?_; intro a12 hF13; clear hF10
 refine s1 hF13 8 (.int .i64 (u0.length : Int)) ?_; intro a14 hF15; clear hF13
 refine s1 hF15 9 (.int .i64 0) ?_; intro a16 hF17; clear hF15
 refine nlH (hQ11 _ _ ?_); clear hQ11 hQ11Q
 refine wp_block ?_
 have hF18 : Fr 26 [] [⟨3, [], str []⟩, ⟨7, [], .slice ao1 u0.length cap2⟩, ⟨8, [], .int .i64 (u0.length : Int)⟩, ⟨9, [], .int .i64 0⟩] a16 := hF17.reg; clear hF17
 have hF20 : Fr 26 [] [⟨3, [], str []⟩, ⟨7, [], .slice ao1 u0.length cap2⟩, ⟨8, [], .int .i64 (u0.length : Int)⟩, ⟨9, [], .int .i64 0⟩] a16 := hF18.reg; clear hF18
 obtain ⟨inv19, mu19, hI23, hr22⟩ := hp4
 refine lp (ι := (List UInt8) × Int) (fun (s : (List UInt8) × Int) => [⟨3, [], str s.1⟩, ⟨7, [], .slice ao1 u0.length cap2⟩, ⟨8, [], .int .i64 (u0.length : Int)⟩, ⟨9, [], .int .i64 s.2⟩]) (fun (s : (List UInt8) × Int) => []) (fun (s : (List UInt8) × Int) => Z) (fun (s : (List UInt8) × Int) => inv19 s.1 s.2) (fun (s : (List UInt8) × Int) => mu19 s.1 s.2) ⟨[], 0⟩ hI23 (by exact hF20.reg) (by exact hM0) ?_
 rintro ⟨x3, x9⟩ hI21 a25 wd26 hF27 hM28
 have hF29 : Fr 26 [] [⟨3, [], str x3⟩, ⟨7, [], .slice ao1 u0.length cap2⟩, ⟨8, [], .int .i64 (u0.length : Int)⟩, ⟨9, [], .int .i64 x9⟩] a25 := hF27; clear hF27 hF20
 have hM30 : Mem w.heap.size [] w Z [] Z wd26 := hM28; clear hM28 hM0
 have hp31 := hr22 x3 x9 hI21
 refine sqH ?_; intro hQ32Q hQ32
 refine s1 hF29 10 (.bool (decide (x9 < (u0.length : Int)))) ?_; intro a33 hF34; clear hF29
 refine nlH (hQ32 _ _ ?_); clear hQ32 hQ32Q
 refine wp_seq ?_
 refine cd hF34 (t := decide (x9 < (u0.length : Int))) (by kernel_rfl) (fun hb35 => ?_) (fun hb35 => ?_)
 ·
  have hp36 := hp31.1 hb35; clear hp31
  refine wp_skip ?_
  refine thn ?_
  refine wp_seq ?_
  refine wp_block ?_
  refine sqH ?_; intro hQ37Q hQ37
  have hc38 := hp36.1; have hp39 := hp36.2; clear hp36
  refine ix hF34 (T := (tyInt .u8)) (xs := u0) hs3 x9 hc38 (k := .i64) (e := 5) (bytes := 1) (nog rfl _) rfl (by kernel_rfl) rfl (by kernel_rfl) (by kernel_rfl) (by kernel_rfl) ?_; intro b40 off41 cs42 q43 a47 hq44 hP45 hT46 hF48; clear hF34
  have hp49 := hp39 q43 hq44; clear hp39
  obtain rfl : cs42 = ([.int .u8 q43] : List Value) := hT46
  refine z1 hF48 hM30 12 hP45 0 (.int .u8 q43) rfl ?_; intro a50 hF51; clear hF48
  refine s1 hF51 5 (.int .u8 q43) ?_; intro a52 hF53; clear hF51
  refine nlH (hQ37 _ _ ?_); clear hQ37 hQ37Q
  refine sqH ?_; intro hQ54Q hQ54
  refine s1 hF53 13 (.int .u8 q43) ?_; intro a55 hF56; clear hF53
  refine s1 hF56 14 (.int .i64 (w64 q43)) ?_; intro a57 hF58; clear hF56
  refine cl hF58 88 #[.int .i64 (w64 q43), .int .i64 2] (nog rfl _) rfl (by kernel_rfl) (by kernel_rfl) ?_
  refine (fint1_walk (w64 q43) _ _ hg5 hM30.fz hp49).mono ?_; rintro _ wd60 ⟨r59, rfl, hp64, hb⟩; refine ⟨_, rfl, ?_⟩; intro a61 hF62; have hM63 := hM30.call hb; clear hb hM30 hF58
  refine s1 hF62 6 (str r59) ?_; intro a65 hF66; clear hF62
  refine nlH (hQ54 _ _ ?_); clear hQ54 hQ54Q
  refine rgH ?_; intro hQ67Q hQ67
  refine s1 hF66 16 (str x3) ?_; intro a68 hF69; clear hF66
  refine s1 hF69 17 (str r59) ?_; intro a70 hF71; clear hF69
  refine s1 hF71 18 (.int .i64 (r59.length : Int)) ?_; intro a72 hF73; clear hF71
  refine s1 hF73 19 (.int .i64 (w64 (8 - (r59.length : Int)))) ?_; intro a74 hF75; clear hF73
  have hc76 := hp64.1; have hp77 := hp64.2; clear hp64
  refine fcl hF75 hM63 (str (srepS ([48] : List UInt8) (w64 (8 - (r59.length : Int))))) 89 #[str ([48] : List UInt8), .int .i64 (w64 (8 - (r59.length : Int)))] (nog rfl _) rfl (by kernel_rfl) (fun _ => by kernel_rfl) (srep_fun ([48] : List UInt8) (w64 (8 - (r59.length : Int))) hc76 _ _ hM63.fz) ?_; intro a78 wd80 hF79 hM81; clear hF75 hM63
  refine s1 hF79 21 (str r59) ?_; intro a82 hF83; clear hF79
  have hc84 := hp77.1; have hp85 := hp77.2; clear hp77
  refine st hF83 (str ((srepS ([48] : List UInt8) (w64 (8 - (r59.length : Int)))) ++ r59)) (nog rfl _) rfl (by kernel_rfl) (stradd_run hF83 (g := []) rfl (by kernel_rfl) (by kernel_rfl) hc84 rfl) ?_; intro a86 hF87; clear hF83
  have hc88 := hp85.1; have hp89 := hp85.2; clear hp85
  refine st hF87 (str (x3 ++ ((srepS ([48] : List UInt8) (w64 (8 - (r59.length : Int)))) ++ r59))) (nog rfl _) rfl (by kernel_rfl) (stradd_run hF87 (g := []) rfl (by kernel_rfl) (by kernel_rfl) hc88 rfl) ?_; intro a90 hF91; clear hF87
  refine s1 hF91 3 (str (x3 ++ ((srepS ([48] : List UInt8) (w64 (8 - (r59.length : Int)))) ++ r59))) ?_; intro a92 hF93; clear hF91
  refine nlH (hQ67 _ _ ?_); clear hQ67 hQ67Q
  refine ibn ?_
  refine thn ?_
  have hF94 : Fr 26 [] [⟨3, [], str (x3 ++ ((srepS ([48] : List UInt8) (w64 (8 - (r59.length : Int)))) ++ r59))⟩, ⟨7, [], .slice ao1 u0.length cap2⟩, ⟨8, [], .int .i64 (u0.length : Int)⟩, ⟨9, [], .int .i64 x9⟩] a92 := hF93.reg; clear hF93
  refine rgH ?_; intro hQ95Q hQ95
  refine s1 hF94 24 (.int .i64 (w64 (x9 + 1))) ?_; intro a96 hF97; clear hF94
  refine s1 hF97 9 (.int .i64 (w64 (x9 + 1))) ?_; intro a98 hF99; clear hF97
  refine nlH (hQ95 _ _ ?_); clear hQ95 hQ95Q
  refine rd ?_
  exact ⟨⟨x3 ++ ((srepS ([48] : List UInt8) (w64 (8 - (r59.length : Int)))) ++ r59), w64 (x9 + 1)⟩, hp89.1, hp89.2, (hF99.reg).anyβ _ (by kernel_rfl), hM81.keep (List.Sublist.slnil)⟩
 ·
  have hp100 := hp31.2 hb35; clear hp31
  refine wp_exit ?_
  refine thx ?_
  refine thx ?_
  refine ibx ?_
  refine thn ?_
  refine sqH ?_; intro hQ101Q hQ101
  refine s1 hF34 25 (str x3) ?_; intro a102 hF103; clear hF34
  refine s1 hF103 2 (str x3) ?_; intro a104 hF105; clear hF103
  refine nlH (hQ101 _ _ ?_); clear hQ101 hQ101Q
  refine wp_ret ?_
  refine rt (fn := Tryz.f90) (v := str x3) hF105 (re1 hF105 (fn := Tryz.f90) rfl (by kernel_rfl)) ?_
  exact ⟨x3, rfl, hp100, hM30.below⟩

set_option maxRecDepth 100000 in
set_option maxHeartbeats 0 in
theorem rname_walk (u0 : Frame) (ao1 : Option Addr) (cap2 : Nat) (Z : Fz) (w : World) (hs3 : SlR (tyInt .u8) Z ao1 cap2 u0.Data) (hg5 : SlR (tyInt .u8) Z (some ⟨5, 0, none⟩) 64 deBruijn64) (hZ : Z.on w) {K : (List UInt8) → Prop} (hp : rname_vc u0 K) : Calls Tryz.prog 20 #[.agg #[.int .i64 u0.ID, .bool u0.Long, .bool u0.Fast, .bool u0.Remote, .int .i64 u0.Size, .slice ao1 u0.Data.length cap2]] w fun e w' => ∃ r : (List UInt8), e = .returned (str r) ∧ K r ∧ Below w.heap.size w w' := by
 refine enter0 Tryz.func20 rfl rfl (by kernel_rfl) ?_; intro a0 hF0; have hM0 := Mem.start w Z hZ; have hle0 := Fz.le.refl Z
 have hp4 := hp (hs3.small); clear hp
 refine sqH ?_; intro hQ5Q hQ5
 refine sn hF0 hM0 (fun b => .pointer (some ⟨b, 0, none⟩)) [.int .i64 u0.ID, .bool u0.Long, .bool u0.Fast, .bool u0.Remote, .int .i64 u0.Size, .slice ao1 u0.Data.length cap2] 24 (nog rfl _) rfl (by kernel_rfl) (by kernel_rfl) ?_; intro b6 a7 wd9 hF8 hM10; clear hF0 hM0
 refine s1 hF8 2 (str []) ?_; intro a11 hF12; clear hF8
 refine nlH (hQ5 _ _ ?_); clear hQ5 hQ5Q
 refine sqH ?_; intro hQ13Q hQ13
 refine s1 hF12 3 (str ([48] : List UInt8)) ?_; intro a14 hF15; clear hF12
 refine nlH (hQ13 _ _ ?_); clear hQ13 hQ13Q
 refine wp_seq ?_
 refine sqH ?_; intro hQ16Q hQ16
 refine s1 hF15 8 (.pointer (some ⟨b6, 3, none⟩)) ?_; intro a17 hF18; clear hF15
 refine l1 hF18 hM10 9 0 3 (.bool u0.Remote) rfl rfl ?_; intro a19 hF20; clear hF18
 refine nlH (hQ16 _ _ ?_); clear hQ16 hQ16Q
 refine cd hF20 (t := u0.Remote) (by kernel_rfl) (fun hb21 => ?_) (fun hb21 => ?_)
 ·
  have hp22 := hp4.1 hb21; clear hp4
  refine rgH ?_; intro hQ23Q hQ23
  refine s1 hF20 3 (str ([49] : List UInt8)) ?_; intro a24 hF25; clear hF20
  refine nlH (hQ23 _ _ ?_); clear hQ23 hQ23Q
  refine thn ?_
  refine wp_seq ?_
  refine sqH ?_; intro hQ26Q hQ26
  refine s1 hF25 10 (.pointer (some ⟨b6, 1, none⟩)) ?_; intro a27 hF28; clear hF25
  refine l1 hF28 hM10 11 0 1 (.bool u0.Long) rfl rfl ?_; intro a29 hF30; clear hF28
  refine nlH (hQ26 _ _ ?_); clear hQ26 hQ26Q
  refine cd hF30 (t := u0.Long) (by kernel_rfl) (fun hb31 => ?_) (fun hb31 => ?_)
  ·
   have hp32 := hp22.1 hb31; clear hp22
   refine sqH ?_; intro hQ33Q hQ33
   refine s1 hF30 13 (.pointer (some ⟨b6, 0, none⟩)) ?_; intro a34 hF35; clear hF30
   refine l1 hF35 hM10 14 0 0 (.int .i64 u0.ID) rfl rfl ?_; intro a36 hF37; clear hF35
   have hc38 := hp32.1; have hp39 := hp32.2; clear hp32
   refine fcl hF37 hM10 (.tuple #[str ((rrowS u0.ID 29).1), .bool ((rrowS u0.ID 29).2)]) 59 #[.int .i64 u0.ID, .int .i64 29] (nog rfl _) rfl (by kernel_rfl) (fun _ => by kernel_rfl) (rrow_fun u0.ID 29 hc38 _ _ hg5 hM10.fz) ?_; intro a40 wd42 hF41 hM43; clear hF37 hM10
   refine s1 hF41 12 (.tuple #[str ((rrowS u0.ID 29).1), .bool ((rrowS u0.ID 29).2)]) ?_; intro a44 hF45; clear hF41
   refine s1 hF45 16 (str ((rrowS u0.ID 29).1)) ?_; intro a46 hF47; clear hF45
   refine s1 hF47 17 (.bool ((rrowS u0.ID 29).2)) ?_; intro a48 hF49; clear hF47
   refine s1 hF49 4 (str ((rrowS u0.ID 29).1)) ?_; intro a50 hF51; clear hF49
   refine s1 hF51 5 (.bool ((rrowS u0.ID 29).2)) ?_; intro a52 hF53; clear hF51
   refine nlH (hQ33 _ _ ?_); clear hQ33 hQ33Q
   have hF54 : Fr 36 [] [⟨3, [], str ([49] : List UInt8)⟩, ⟨4, [], str ((rrowS u0.ID 29).1)⟩] a52 := hF53.reg; clear hF53
   refine sqQH mixed (by kernel_rfl) hM43 ?_; intro hQ55Q hQ55
   refine q1 hF54 18 (str ((rrowS u0.ID 29).1)) ?_; intro a57 hF58; clear hF54
   have hc60 := hp39.1; have hp61 := hp39.2; clear hp39
   refine qst hF58 (str (((rrowS u0.ID 29).1).take (11 : Int).toNat)) (nog rfl _) rfl (by kernel_rfl) (fun v59 hC => strslH_run hF58 (g := []) (k := .i64) rfl (by kernel_rfl) (by kernel_rfl) (by kernel_rfl) hc60 rfl) ?_; intro a62 hF63; clear hF58
   have hc65 := hp61.1; have hp66 := hp61.2; clear hp61
   refine qst hF63 (str ((((rrowS u0.ID 29).1).take (11 : Int).toNat) ++ ([49, 49] : List UInt8))) (nog rfl _) rfl (by kernel_rfl) (fun v64 hC => stradd_run hF63 (g := []) rfl (by kernel_rfl) (by kernel_rfl) hc65 rfl) ?_; intro a67 hF68; clear hF63
   refine q1 hF68 21 (str ((rrowS u0.ID 29).1)) ?_; intro a70 hF71; clear hF68
   have hc73 := hp66.1; have hp74 := hp66.2; clear hp66
   refine qst hF71 (str (((rrowS u0.ID 29).1).drop (11 : Int).toNat)) (nog rfl _) rfl (by kernel_rfl) (fun v72 hC => strslL_run hF71 (g := []) (k := .i64) rfl (by kernel_rfl) (by kernel_rfl) (by kernel_rfl) hc73 rfl) ?_; intro a75 hF76; clear hF71
   have hc78 := hp74.1; have hp79 := hp74.2; clear hp74
   refine qst hF76 (str (((((rrowS u0.ID 29).1).take (11 : Int).toNat) ++ ([49, 49] : List UInt8)) ++ (((rrowS u0.ID 29).1).drop (11 : Int).toNat))) (nog rfl _) rfl (by kernel_rfl) (fun v77 hC => stradd_run hF76 (g := []) rfl (by kernel_rfl) (by kernel_rfl) hc78 rfl) ?_; intro a80 hF81; clear hF76
   refine q1 hF81 24 (str ([49] : List UInt8)) ?_; intro a83 hF84; clear hF81
   have hc86 := hp79.1; have hp87 := hp79.2; clear hp79
   refine qst hF84 (str ((((((rrowS u0.ID 29).1).take (11 : Int).toNat) ++ ([49, 49] : List UInt8)) ++ (((rrowS u0.ID 29).1).drop (11 : Int).toNat)) ++ ([49] : List UInt8))) (nog rfl _) rfl (by kernel_rfl) (fun v85 hC => stradd_run hF84 (g := []) rfl (by kernel_rfl) (by kernel_rfl) hc86 rfl) ?_; intro a88 hF89; clear hF84
   refine q1 hF89 2 (str ((((((rrowS u0.ID 29).1).take (11 : Int).toNat) ++ ([49, 49] : List UInt8)) ++ (((rrowS u0.ID 29).1).drop (11 : Int).toNat)) ++ ([49] : List UInt8))) ?_; intro a91 hF92; clear hF89
   refine qnl (hQ55 _ ?_); clear hQ55 hQ55Q; intro wd93 hM94; clear hM43
   refine wp_ret ?_
   refine thr ?_
   refine rt (fn := Tryz.f20) (v := str ((((((rrowS u0.ID 29).1).take (11 : Int).toNat) ++ ([49, 49] : List UInt8)) ++ (((rrowS u0.ID 29).1).drop (11 : Int).toNat)) ++ ([49] : List UInt8))) hF92 (re1 hF92 (fn := Tryz.f20) rfl (by kernel_rfl)) ?_
   exact ⟨(((((rrowS u0.ID 29).1).take (11 : Int).toNat) ++ ([49, 49] : List UInt8)) ++ (((rrowS u0.ID 29).1).drop (11 : Int).toNat)) ++ ([49] : List UInt8), rfl, hp87, hM94.below⟩
  ·
   have hp95 := hp22.2 hb31; clear hp22
   refine wp_skip ?_
   refine thn ?_
   refine sqH ?_; intro hQ96Q hQ96
   refine s1 hF30 27 (.pointer (some ⟨b6, 0, none⟩)) ?_; intro a97 hF98; clear hF30
   refine l1 hF98 hM10 28 0 0 (.int .i64 u0.ID) rfl rfl ?_; intro a99 hF100; clear hF98
   have hc101 := hp95.1; have hp102 := hp95.2; clear hp95
   refine fcl hF100 hM10 (.tuple #[str ((rrowS u0.ID 11).1), .bool ((rrowS u0.ID 11).2)]) 59 #[.int .i64 u0.ID, .int .i64 11] (nog rfl _) rfl (by kernel_rfl) (fun _ => by kernel_rfl) (rrow_fun u0.ID 11 hc101 _ _ hg5 hM10.fz) ?_; intro a103 wd105 hF104 hM106; clear hF100 hM10
   refine s1 hF104 26 (.tuple #[str ((rrowS u0.ID 11).1), .bool ((rrowS u0.ID 11).2)]) ?_; intro a107 hF108; clear hF104
   refine s1 hF108 30 (str ((rrowS u0.ID 11).1)) ?_; intro a109 hF110; clear hF108
   refine s1 hF110 31 (.bool ((rrowS u0.ID 11).2)) ?_; intro a111 hF112; clear hF110
   refine s1 hF112 6 (str ((rrowS u0.ID 11).1)) ?_; intro a113 hF114; clear hF112
   refine s1 hF114 7 (.bool ((rrowS u0.ID 11).2)) ?_; intro a115 hF116; clear hF114
   refine nlH (hQ96 _ _ ?_); clear hQ96 hQ96Q
   have hF117 : Fr 36 [] [⟨3, [], str ([49] : List UInt8)⟩, ⟨6, [], str ((rrowS u0.ID 11).1)⟩] a115 := hF116.reg; clear hF116
   refine sqH ?_; intro hQ118Q hQ118
   refine s1 hF117 32 (str ((rrowS u0.ID 11).1)) ?_; intro a119 hF120; clear hF117
   refine s1 hF120 33 (str ([49] : List UInt8)) ?_; intro a121 hF122; clear hF120
   have hc123 := hp102.1; have hp124 := hp102.2; clear hp102
   refine st hF122 (str (((rrowS u0.ID 11).1) ++ ([49] : List UInt8))) (nog rfl _) rfl (by kernel_rfl) (stradd_run hF122 (g := []) rfl (by kernel_rfl) (by kernel_rfl) hc123 rfl) ?_; intro a125 hF126; clear hF122
   have hc127 := hp124.1; have hp128 := hp124.2; clear hp124
   refine st hF126 (str ((((rrowS u0.ID 11).1) ++ ([49] : List UInt8)) ++ ([48] : List UInt8))) (nog rfl _) rfl (by kernel_rfl) (stradd_run hF126 (g := []) rfl (by kernel_rfl) (by kernel_rfl) hc127 rfl) ?_; intro a129 hF130; clear hF126
   refine s1 hF130 2 (str ((((rrowS u0.ID 11).1) ++ ([49] : List UInt8)) ++ ([48] : List UInt8))) ?_; intro a131 hF132; clear hF130
   refine nlH (hQ118 _ _ ?_); clear hQ118 hQ118Q
   refine wp_ret ?_
   refine rt (fn := Tryz.f20) (v := str ((((rrowS u0.ID 11).1) ++ ([49] : List UInt8)) ++ ([48] : List UInt8))) hF132 (re1 hF132 (fn := Tryz.f20) rfl (by kernel_rfl)) ?_
   exact ⟨(((rrowS u0.ID 11).1) ++ ([49] : List UInt8)) ++ ([48] : List UInt8), rfl, hp128, hM106.below⟩
 ·
  have hp133 := hp4.2 hb21; clear hp4
  refine wp_skip ?_
  refine thn ?_
  refine wp_seq ?_
  refine sqH ?_; intro hQ134Q hQ134
  refine s1 hF20 10 (.pointer (some ⟨b6, 1, none⟩)) ?_; intro a135 hF136; clear hF20
  refine l1 hF136 hM10 11 0 1 (.bool u0.Long) rfl rfl ?_; intro a137 hF138; clear hF136
  refine nlH (hQ134 _ _ ?_); clear hQ134 hQ134Q
  refine cd hF138 (t := u0.Long) (by kernel_rfl) (fun hb139 => ?_) (fun hb139 => ?_)
  ·
   have hp140 := hp133.1 hb139; clear hp133
   refine sqH ?_; intro hQ141Q hQ141
   refine s1 hF138 13 (.pointer (some ⟨b6, 0, none⟩)) ?_; intro a142 hF143; clear hF138
   refine l1 hF143 hM10 14 0 0 (.int .i64 u0.ID) rfl rfl ?_; intro a144 hF145; clear hF143
   have hc146 := hp140.1; have hp147 := hp140.2; clear hp140
   refine fcl hF145 hM10 (.tuple #[str ((rrowS u0.ID 29).1), .bool ((rrowS u0.ID 29).2)]) 59 #[.int .i64 u0.ID, .int .i64 29] (nog rfl _) rfl (by kernel_rfl) (fun _ => by kernel_rfl) (rrow_fun u0.ID 29 hc146 _ _ hg5 hM10.fz) ?_; intro a148 wd150 hF149 hM151; clear hF145 hM10
   refine s1 hF149 12 (.tuple #[str ((rrowS u0.ID 29).1), .bool ((rrowS u0.ID 29).2)]) ?_; intro a152 hF153; clear hF149
   refine s1 hF153 16 (str ((rrowS u0.ID 29).1)) ?_; intro a154 hF155; clear hF153
   refine s1 hF155 17 (.bool ((rrowS u0.ID 29).2)) ?_; intro a156 hF157; clear hF155
   refine s1 hF157 4 (str ((rrowS u0.ID 29).1)) ?_; intro a158 hF159; clear hF157
   refine s1 hF159 5 (.bool ((rrowS u0.ID 29).2)) ?_; intro a160 hF161; clear hF159
   refine nlH (hQ141 _ _ ?_); clear hQ141 hQ141Q
   have hF162 : Fr 36 [] [⟨3, [], str ([48] : List UInt8)⟩, ⟨4, [], str ((rrowS u0.ID 29).1)⟩] a160 := hF161.reg; clear hF161
   refine sqQH mixed (by kernel_rfl) hM151 ?_; intro hQ163Q hQ163
   refine q1 hF162 18 (str ((rrowS u0.ID 29).1)) ?_; intro a165 hF166; clear hF162
   have hc168 := hp147.1; have hp169 := hp147.2; clear hp147
   refine qst hF166 (str (((rrowS u0.ID 29).1).take (11 : Int).toNat)) (nog rfl _) rfl (by kernel_rfl) (fun v167 hC => strslH_run hF166 (g := []) (k := .i64) rfl (by kernel_rfl) (by kernel_rfl) (by kernel_rfl) hc168 rfl) ?_; intro a170 hF171; clear hF166
   have hc173 := hp169.1; have hp174 := hp169.2; clear hp169
   refine qst hF171 (str ((((rrowS u0.ID 29).1).take (11 : Int).toNat) ++ ([49, 49] : List UInt8))) (nog rfl _) rfl (by kernel_rfl) (fun v172 hC => stradd_run hF171 (g := []) rfl (by kernel_rfl) (by kernel_rfl) hc173 rfl) ?_; intro a175 hF176; clear hF171
   refine q1 hF176 21 (str ((rrowS u0.ID 29).1)) ?_; intro a178 hF179; clear hF176
   have hc181 := hp174.1; have hp182 := hp174.2; clear hp174
   refine qst hF179 (str (((rrowS u0.ID 29).1).drop (11 : Int).toNat)) (nog rfl _) rfl (by kernel_rfl) (fun v180 hC => strslL_run hF179 (g := []) (k := .i64) rfl (by kernel_rfl) (by kernel_rfl) (by kernel_rfl) hc181 rfl) ?_; intro a183 hF184; clear hF179
   have hc186 := hp182.1; have hp187 := hp182.2; clear hp182
   refine qst hF184 (str (((((rrowS u0.ID 29).1).take (11 : Int).toNat) ++ ([49, 49] : List UInt8)) ++ (((rrowS u0.ID 29).1).drop (11 : Int).toNat))) (nog rfl _) rfl (by kernel_rfl) (fun v185 hC => stradd_run hF184 (g := []) rfl (by kernel_rfl) (by kernel_rfl) hc186 rfl) ?_; intro a188 hF189; clear hF184
   refine q1 hF189 24 (str ([48] : List UInt8)) ?_; intro a191 hF192; clear hF189
   have hc194 := hp187.1; have hp195 := hp187.2; clear hp187
   refine qst hF192 (str ((((((rrowS u0.ID 29).1).take (11 : Int).toNat) ++ ([49, 49] : List UInt8)) ++ (((rrowS u0.ID 29).1).drop (11 : Int).toNat)) ++ ([48] : List UInt8))) (nog rfl _) rfl (by kernel_rfl) (fun v193 hC => stradd_run hF192 (g := []) rfl (by kernel_rfl) (by kernel_rfl) hc194 rfl) ?_; intro a196 hF197; clear hF192
   refine q1 hF197 2 (str ((((((rrowS u0.ID 29).1).take (11 : Int).toNat) ++ ([49, 49] : List UInt8)) ++ (((rrowS u0.ID 29).1).drop (11 : Int).toNat)) ++ ([48] : List UInt8))) ?_; intro a199 hF200; clear hF197
   refine qnl (hQ163 _ ?_); clear hQ163 hQ163Q; intro wd201 hM202; clear hM151
   refine wp_ret ?_
   refine thr ?_
   refine rt (fn := Tryz.f20) (v := str ((((((rrowS u0.ID 29).1).take (11 : Int).toNat) ++ ([49, 49] : List UInt8)) ++ (((rrowS u0.ID 29).1).drop (11 : Int).toNat)) ++ ([48] : List UInt8))) hF200 (re1 hF200 (fn := Tryz.f20) rfl (by kernel_rfl)) ?_
   exact ⟨(((((rrowS u0.ID 29).1).take (11 : Int).toNat) ++ ([49, 49] : List UInt8)) ++ (((rrowS u0.ID 29).1).drop (11 : Int).toNat)) ++ ([48] : List UInt8), rfl, hp195, hM202.below⟩
  ·
   have hp203 := hp133.2 hb139; clear hp133
   refine wp_skip ?_
   refine thn ?_
   refine sqH ?_; intro hQ204Q hQ204
   refine s1 hF138 27 (.pointer (some ⟨b6, 0, none⟩)) ?_; intro a205 hF206; clear hF138
   refine l1 hF206 hM10 28 0 0 (.int .i64 u0.ID) rfl rfl ?_; intro a207 hF208; clear hF206
   have hc209 := hp203.1; have hp210 := hp203.2; clear hp203
   refine fcl hF208 hM10 (.tuple #[str ((rrowS u0.ID 11).1), .bool ((rrowS u0.ID 11).2)]) 59 #[.int .i64 u0.ID, .int .i64 11] (nog rfl _) rfl (by kernel_rfl) (fun _ => by kernel_rfl) (rrow_fun u0.ID 11 hc209 _ _ hg5 hM10.fz) ?_; intro a211 wd213 hF212 hM214; clear hF208 hM10
   refine s1 hF212 26 (.tuple #[str ((rrowS u0.ID 11).1), .bool ((rrowS u0.ID 11).2)]) ?_; intro a215 hF216; clear hF212
   refine s1 hF216 30 (str ((rrowS u0.ID 11).1)) ?_; intro a217 hF218; clear hF216
   refine s1 hF218 31 (.bool ((rrowS u0.ID 11).2)) ?_; intro a219 hF220; clear hF218
   refine s1 hF220 6 (str ((rrowS u0.ID 11).1)) ?_; intro a221 hF222; clear hF220
   refine s1 hF222 7 (.bool ((rrowS u0.ID 11).2)) ?_; intro a223 hF224; clear hF222
   refine nlH (hQ204 _ _ ?_); clear hQ204 hQ204Q
   have hF225 : Fr 36 [] [⟨3, [], str ([48] : List UInt8)⟩, ⟨6, [], str ((rrowS u0.ID 11).1)⟩] a223 := hF224.reg; clear hF224
   refine sqH ?_; intro hQ226Q hQ226
   refine s1 hF225 32 (str ((rrowS u0.ID 11).1)) ?_; intro a227 hF228; clear hF225
   refine s1 hF228 33 (str ([48] : List UInt8)) ?_; intro a229 hF230; clear hF228
   have hc231 := hp210.1; have hp232 := hp210.2; clear hp210
   refine st hF230 (str (((rrowS u0.ID 11).1) ++ ([48] : List UInt8))) (nog rfl _) rfl (by kernel_rfl) (stradd_run hF230 (g := []) rfl (by kernel_rfl) (by kernel_rfl) hc231 rfl) ?_; intro a233 hF234; clear hF230
   have hc235 := hp232.1; have hp236 := hp232.2; clear hp232
   refine st hF234 (str ((((rrowS u0.ID 11).1) ++ ([48] : List UInt8)) ++ ([48] : List UInt8))) (nog rfl _) rfl (by kernel_rfl) (stradd_run hF234 (g := []) rfl (by kernel_rfl) (by kernel_rfl) hc235 rfl) ?_; intro a237 hF238; clear hF234
   refine s1 hF238 2 (str ((((rrowS u0.ID 11).1) ++ ([48] : List UInt8)) ++ ([48] : List UInt8))) ?_; intro a239 hF240; clear hF238
   refine nlH (hQ226 _ _ ?_); clear hQ226 hQ226Q
   refine wp_ret ?_
   refine rt (fn := Tryz.f20) (v := str ((((rrowS u0.ID 11).1) ++ ([48] : List UInt8)) ++ ([48] : List UInt8))) hF240 (re1 hF240 (fn := Tryz.f20) rfl (by kernel_rfl)) ?_
   exact ⟨(((rrowS u0.ID 11).1) ++ ([48] : List UInt8)) ++ ([48] : List UInt8), rfl, hp236, hM214.below⟩

set_option maxRecDepth 100000 in
set_option maxHeartbeats 0 in
theorem rsizes_walk   (Z : Fz) (w : World)  (hZ : Z.on w) {K : (List Int) → Prop} (hp : rsizes_vc  K) : Calls Tryz.prog 48 #[] w fun e w' => ∃ (r : (List Int)) (ao1001 : Option Addr) (cap1002 : Nat) (Z' : Fz), e = .returned (.slice ao1001 r.length cap1002) ∧ K r ∧ Mem w.heap.size [] w Z [.own (tyInt .i64) 3 ao1001 cap1002 r] Z' w' := by
 refine enter0 Tryz.func48 rfl rfl (by kernel_rfl) ?_; intro a0 hF0; have hM0 := Mem.start w Z hZ; have hle0 := Fz.le.refl Z
 refine sqH ?_; intro hQ1Q hQ1
 refine s1 hF0 0 (.slice none 0 0) ?_; intro a2 hF3; clear hF0
 refine nlH (hQ1 _ _ ?_); clear hQ1 hQ1Q
 refine sqH ?_; intro hQ4Q hQ4
 refine sn hF3 hM0 (fun b => .slice (some ⟨b, 0, none⟩) 16 16) [.int .i64 0, .int .i64 1, .int .i64 2, .int .i64 3, .int .i64 4, .int .i64 5, .int .i64 6, .int .i64 7, .int .i64 8, .int .i64 12, .int .i64 16, .int .i64 20, .int .i64 24, .int .i64 32, .int .i64 48, .int .i64 64] 3 (nog rfl _) rfl (by kernel_rfl) (by kernel_rfl) ?_; intro b5 a6 wd8 hF7 hM9; clear hF3 hM0
 refine s1 hF7 0 (.slice (some ⟨b5, 0, none⟩) 16 16) ?_; intro a10 hF11; clear hF7
 refine nlH (hQ4 _ _ ?_); clear hQ4 hQ4Q
 refine wp_ret ?_
 have hM12 : Mem w.heap.size [] w Z [.own (tyInt .i64) 3 (some ⟨b5, 0, none⟩) 16 ([0, 1, 2, 3, 4, 5, 6, 7, 8, 12, 16, 20, 24, 32, 48, 64] : List Int)] Z wd8 := hM9.rowOwn (T := (tyInt .i64)) (xs := ([0, 1, 2, 3, 4, 5, 6, 7, 8, 12, 16, 20, 24, 32, 48, 64] : List Int)) 0 rfl (by decide) (by show 16 ≤ lim; decide) ((RepAll.one (T := (tyInt .i64)) (x := 0) rfl).append ((RepAll.one (T := (tyInt .i64)) (x := 1) rfl).append ((RepAll.one (T := (tyInt .i64)) (x := 2) rfl).append ((RepAll.one (T := (tyInt .i64)) (x := 3) rfl).append ((RepAll.one (T := (tyInt .i64)) (x := 4) rfl).append ((RepAll.one (T := (tyInt .i64)) (x := 5) rfl).append ((RepAll.one (T := (tyInt .i64)) (x := 6) rfl).append ((RepAll.one (T := (tyInt .i64)) (x := 7) rfl).append ((RepAll.one (T := (tyInt .i64)) (x := 8) rfl).append ((RepAll.one (T := (tyInt .i64)) (x := 12) rfl).append ((RepAll.one (T := (tyInt .i64)) (x := 16) rfl).append ((RepAll.one (T := (tyInt .i64)) (x := 20) rfl).append ((RepAll.one (T := (tyInt .i64)) (x := 24) rfl).append ((RepAll.one (T := (tyInt .i64)) (x := 32) rfl).append ((RepAll.one (T := (tyInt .i64)) (x := 48) rfl).append (RepAll.one (T := (tyInt .i64)) (x := 64) rfl)))))))))))))))); clear hM9
 refine rt (fn := Tryz.f48) (v := .slice (some ⟨b5, 0, none⟩) ([0, 1, 2, 3, 4, 5, 6, 7, 8, 12, 16, 20, 24, 32, 48, 64] : List Int).length 16) hF11 (re1 hF11 (fn := Tryz.f48) rfl (by kernel_rfl)) ?_
 exact ⟨([0, 1, 2, 3, 4, 5, 6, 7, 8, 12, 16, 20, 24, 32, 48, 64] : List Int), (some ⟨b5, 0, none⟩), 16, Z, rfl, hp, hM12.keep (List.Sublist.cons_cons _ (List.Sublist.slnil))⟩
theorem rsizes_fun   (Z : Fz) (w : World)  (hZ : Z.on w) : Calls Tryz.prog 48 #[] w fun e w' => ∃ (ao1001 : Option Addr) (cap1002 : Nat) (Z' : Fz), e = .returned (.slice ao1001 rsizes.length cap1002) ∧ Mem w.heap.size [] w Z [.own (tyInt .i64) 3 ao1001 cap1002 rsizes] Z' w' :=
  (rsizes_walk   Z w  hZ (rsizes_ok )).mono fun _ _ ⟨r, h0, h1, h2, he, hk, hm⟩ => by subst hk; exact ⟨h0, h1, h2, he, hm⟩

set_option maxRecDepth 100000 in
set_option maxHeartbeats 0 in
theorem rcheckfr_walk (u0 : Frame) (ao1 : Option Addr) (cap2 : Nat) (Z : Fz) (w : World) (hs3 : SlR (tyInt .u8) Z ao1 cap2 u0.Data) (hZ : Z.on w) {K : Int → Prop} (hp : rcheckfr_vc u0 K) : Calls Tryz.prog 17 #[.agg #[.int .i64 u0.ID, .bool u0.Long, .bool u0.Fast, .bool u0.Remote, .int .i64 u0.Size, .slice ao1 u0.Data.length cap2]] w fun e w' => ∃ r : Int, e = .returned (.int .i64 r) ∧ K r ∧ Below w.heap.size w w' := by
 refine enter0 Tryz.func17 rfl rfl (by kernel_rfl) ?_; intro a0 hF0; have hM0 := Mem.start w Z hZ; have hle0 := Fz.le.refl Z
 have hp4 := hp (hs3.small); clear hp
 refine sqH ?_; intro hQ5Q hQ5
 refine sn hF0 hM0 (fun b => .pointer (some ⟨b, 0, none⟩)) [.int .i64 u0.ID, .bool u0.Long, .bool u0.Fast, .bool u0.Remote, .int .i64 u0.Size, .slice ao1 u0.Data.length cap2] 24 (nog rfl _) rfl (by kernel_rfl) (by kernel_rfl) ?_; intro b6 a7 wd9 hF8 hM10; clear hF0 hM0
 refine s1 hF8 2 (.int .i64 0) ?_; intro a11 hF12; clear hF8
 refine nlH (hQ5 _ _ ?_); clear hQ5 hQ5Q
 refine sqH ?_; intro hQ13Q hQ13
 refine s1 hF12 3 (.int .i64 2047) ?_; intro a14 hF15; clear hF12
 refine nlH (hQ13 _ _ ?_); clear hQ13 hQ13Q
 refine wp_seq ?_
 refine sqH ?_; intro hQ16Q hQ16
 refine s1 hF15 4 (.pointer (some ⟨b6, 1, none⟩)) ?_; intro a17 hF18; clear hF15
 refine l1 hF18 hM10 5 0 1 (.bool u0.Long) rfl rfl ?_; intro a19 hF20; clear hF18
 refine nlH (hQ16 _ _ ?_); clear hQ16 hQ16Q
 refine cd hF20 (t := u0.Long) (by kernel_rfl) (fun hb21 => ?_) (fun hb21 => ?_)
 ·
  have hp22 := hp4.1 hb21; clear hp4
  refine rgH ?_; intro hQ23Q hQ23
  refine s1 hF20 3 (.int .i64 536870911) ?_; intro a24 hF25; clear hF20
  refine nlH (hQ23 _ _ ?_); clear hQ23 hQ23Q
  refine thn ?_
  refine wp_seq ?_
  refine sqH ?_; intro hQ26Q hQ26
  refine s1 hF25 6 (.pointer (some ⟨b6, 0, none⟩)) ?_; intro a27 hF28; clear hF25
  refine l1 hF28 hM10 7 0 0 (.int .i64 u0.ID) rfl rfl ?_; intro a29 hF30; clear hF28
  refine s1 hF30 8 (.bool (decide (u0.ID < 0))) ?_; intro a31 hF32; clear hF30
  refine s1 hF32 9 (.bool (decide (u0.ID < 0))) ?_; intro a33 hF34; clear hF32
  have hF35 := hF34.atom ((decide (u0.ID < 0)) == false) (by kernel_rfl); clear hF34
  refine gp hF35 10 0 [] (decide (u0.ID < 0)) (.pointer (some ⟨b6, 0, none⟩)) rfl rfl ?_; intro a36 hF37; clear hF35
  refine gd hF37 (.int .i64 u0.ID) (m := 0) (cj := []) (bj := decide (u0.ID < 0)) rfl rfl (by kernel_rfl) rfl (by kernel_rfl) (by kernel_rfl) (by kernel_rfl) (fun hg => ld hF37 hM10 0 (g := [0]) (b := b6) (off := 0) (cs := [.int .i64 u0.ID, .bool u0.Long, .bool u0.Fast, .bool u0.Remote, .int .i64 u0.Size, .slice ao1 u0.Data.length cap2]) (ty := 24) rfl (by kernel_rfl) (by kernel_rfl) (by kernel_rfl) (by kernel_rfl) hg) ?_; intro a38 hF39; clear hF37
  refine gp hF39 12 0 [] (decide (u0.ID < 0)) (.int .i64 536870911) rfl rfl ?_; intro a40 hF41; clear hF39
  refine gp hF41 13 0 [] (decide (u0.ID < 0)) (.bool (decide (u0.ID > 536870911))) rfl rfl ?_; intro a42 hF43; clear hF41
  refine st hF43 (.bool ((decide (u0.ID < 0)) || (decide (u0.ID > 536870911)))) (nog rfl _) rfl (by kernel_rfl) (pk_or hF43 (g := []) (m := 0) (b := decide (u0.ID < 0)) (v := decide (u0.ID > 536870911)) rfl (by kernel_rfl) (by kernel_rfl) (by kernel_rfl) rfl) ?_; intro a44 hF45; clear hF43
  refine nlH (hQ26 _ _ ?_); clear hQ26 hQ26Q
  refine cd hF45 (t := (decide (u0.ID < 0)) || (decide (u0.ID > 536870911))) (by kernel_rfl) (fun hb46 => ?_) (fun hb46 => ?_)
  ·
   have hp47 := hp22.1 hb46; clear hp22
   have hF48 : Fr 66 [] [] a44 := hF45.reg; clear hF45
   refine sqH ?_; intro hQ49Q hQ49
   refine s1 hF48 2 (.int .i64 3) ?_; intro a50 hF51; clear hF48
   refine nlH (hQ49 _ _ ?_); clear hQ49 hQ49Q
   refine wp_ret ?_
   refine thr ?_
   refine rt (fn := Tryz.f17) (v := .int .i64 3) hF51 (re1 hF51 (fn := Tryz.f17) rfl (by kernel_rfl)) ?_
   exact ⟨3, rfl, hp47, hM10.below⟩
  ·
   have hp52 := hp22.2 hb46; clear hp22
   refine wp_skip ?_
   refine thn ?_
   refine wp_seq ?_
   have hF53 : Fr 66 [] [⟨1, [], .pointer (some ⟨b6, 0, none⟩)⟩] a44 := hF45.reg; clear hF45
   refine sqH ?_; intro hQ54Q hQ54
   refine s1 hF53 15 (.pointer (some ⟨b6, 3, none⟩)) ?_; intro a55 hF56; clear hF53
   refine l1 hF56 hM10 16 0 3 (.bool u0.Remote) rfl rfl ?_; intro a57 hF58; clear hF56
   refine s1 hF58 17 (.bool u0.Remote) ?_; intro a59 hF60; clear hF58
   have hF61 := hF60.atom (u0.Remote == true) (by kernel_rfl); clear hF60
   refine gp hF61 18 0 [] (u0.Remote) (.pointer (some ⟨b6, 2, none⟩)) rfl rfl ?_; intro a62 hF63; clear hF61
   refine gd hF63 (.bool u0.Fast) (m := 0) (cj := []) (bj := u0.Remote) rfl rfl (by kernel_rfl) rfl (by kernel_rfl) (by kernel_rfl) (by kernel_rfl) (fun hg => ld hF63 hM10 0 (g := [0]) (b := b6) (off := 2) (cs := [.int .i64 u0.ID, .bool u0.Long, .bool u0.Fast, .bool u0.Remote, .int .i64 u0.Size, .slice ao1 u0.Data.length cap2]) (ty := 24) rfl (by kernel_rfl) (by kernel_rfl) (by kernel_rfl) (by kernel_rfl) hg) ?_; intro a64 hF65; clear hF63
   refine gp hF65 20 0 [] (u0.Remote) (.bool u0.Fast) rfl rfl ?_; intro a66 hF67; clear hF65
   have hF68 := hF67.atom (u0.Fast == false) (by kernel_rfl); clear hF67
   refine gp hF68 21 1 [0] (u0.Fast) (.pointer (some ⟨b6, 5, none⟩)) rfl rfl ?_; intro a69 hF70; clear hF68
   refine gd hF70 (.slice ao1 u0.Data.length cap2) (m := 1) (cj := [0]) (bj := u0.Fast) rfl rfl (by kernel_rfl) rfl (by kernel_rfl) (by kernel_rfl) (by kernel_rfl) (fun hg => ld hF70 hM10 0 (g := [1, 0]) (b := b6) (off := 5) (cs := [.int .i64 u0.ID, .bool u0.Long, .bool u0.Fast, .bool u0.Remote, .int .i64 u0.Size, .slice ao1 u0.Data.length cap2]) (ty := 24) rfl (by kernel_rfl) (by kernel_rfl) (by kernel_rfl) (by kernel_rfl) hg) ?_; intro a71 hF72; clear hF70
   refine gp hF72 23 1 [0] (u0.Fast) (.int .i64 (u0.Data.length : Int)) rfl rfl ?_; intro a73 hF74; clear hF72
   refine gp hF74 24 1 [0] (u0.Fast) (.bool ((u0.Data.length : Int) != 0)) rfl rfl ?_; intro a75 hF76; clear hF74
   refine gd hF76 (.bool (u0.Fast || ((u0.Data.length : Int) != 0))) (m := 0) (cj := []) (bj := u0.Remote) rfl rfl (by kernel_rfl) rfl (by kernel_rfl) (by kernel_rfl) (by kernel_rfl) (fun hg => pk_or hF76 (g := [0]) (m := 1) (b := u0.Fast) (v := (u0.Data.length : Int) != 0) rfl (by kernel_rfl) (by kernel_rfl) (by kernel_rfl) hg) ?_; intro a77 hF78; clear hF76
   refine st hF78 (.bool (u0.Remote && (u0.Fast || ((u0.Data.length : Int) != 0)))) (nog rfl _) rfl (by kernel_rfl) (pk_and hF78 (g := []) (m := 0) (b := u0.Remote) (v := u0.Fast || ((u0.Data.length : Int) != 0)) rfl (by kernel_rfl) (by kernel_rfl) (by kernel_rfl) rfl) ?_; intro a79 hF80; clear hF78
   refine nlH (hQ54 _ _ ?_); clear hQ54 hQ54Q
   refine cd hF80 (t := u0.Remote && (u0.Fast || ((u0.Data.length : Int) != 0))) (by kernel_rfl) (fun hb81 => ?_) (fun hb81 => ?_)
   ·
    have hp82 := hp52.1 hb81; clear hp52
    have hF83 : Fr 66 [] [] a79 := hF80.reg; clear hF80
    refine sqH ?_; intro hQ84Q hQ84
    refine s1 hF83 2 (.int .i64 4) ?_; intro a85 hF86; clear hF83
    refine nlH (hQ84 _ _ ?_); clear hQ84 hQ84Q
    refine wp_ret ?_
    refine thr ?_
    refine rt (fn := Tryz.f17) (v := .int .i64 4) hF86 (re1 hF86 (fn := Tryz.f17) rfl (by kernel_rfl)) ?_
    exact ⟨4, rfl, hp82, hM10.below⟩
   ·
    have hp87 := hp52.2 hb81; clear hp52
    refine wp_skip ?_
    refine thn ?_
    refine wp_seq ?_
    have hF88 : Fr 66 [] [⟨1, [], .pointer (some ⟨b6, 0, none⟩)⟩] a79 := hF80.reg; clear hF80
    refine sqH ?_; intro hQ89Q hQ89
    refine s1 hF88 27 (.pointer (some ⟨b6, 4, none⟩)) ?_; intro a90 hF91; clear hF88
    refine l1 hF91 hM10 28 0 4 (.int .i64 u0.Size) rfl rfl ?_; intro a92 hF93; clear hF91
    refine s1 hF93 29 (.bool (decide (u0.Size < 0))) ?_; intro a94 hF95; clear hF93
    refine s1 hF95 30 (.bool (decide (u0.Size < 0))) ?_; intro a96 hF97; clear hF95
    have hF98 := hF97.atom ((decide (u0.Size < 0)) == false) (by kernel_rfl); clear hF97
    refine gp hF98 31 0 [] (decide (u0.Size < 0)) (.pointer (some ⟨b6, 4, none⟩)) rfl rfl ?_; intro a99 hF100; clear hF98
    refine gd hF100 (.int .i64 u0.Size) (m := 0) (cj := []) (bj := decide (u0.Size < 0)) rfl rfl (by kernel_rfl) rfl (by kernel_rfl) (by kernel_rfl) (by kernel_rfl) (fun hg => ld hF100 hM10 0 (g := [0]) (b := b6) (off := 4) (cs := [.int .i64 u0.ID, .bool u0.Long, .bool u0.Fast, .bool u0.Remote, .int .i64 u0.Size, .slice ao1 u0.Data.length cap2]) (ty := 24) rfl (by kernel_rfl) (by kernel_rfl) (by kernel_rfl) (by kernel_rfl) hg) ?_; intro a101 hF102; clear hF100
    refine gp hF102 33 0 [] (decide (u0.Size < 0)) (.bool (decide (u0.Size > 8))) rfl rfl ?_; intro a103 hF104; clear hF102
    refine st hF104 (.bool ((decide (u0.Size < 0)) || (decide (u0.Size > 8)))) (nog rfl _) rfl (by kernel_rfl) (pk_or hF104 (g := []) (m := 0) (b := decide (u0.Size < 0)) (v := decide (u0.Size > 8)) rfl (by kernel_rfl) (by kernel_rfl) (by kernel_rfl) rfl) ?_; intro a105 hF106; clear hF104
    refine s1 hF106 35 (.bool ((decide (u0.Size < 0)) || (decide (u0.Size > 8)))) ?_; intro a107 hF108; clear hF106
    have hF109 := hF108.atom (((decide (u0.Size < 0)) || (decide (u0.Size > 8))) == false) (by kernel_rfl); clear hF108
    refine gp hF109 36 1 [] ((decide (u0.Size < 0)) || (decide (u0.Size > 8))) (.pointer (some ⟨b6, 4, none⟩)) rfl rfl ?_; intro a110 hF111; clear hF109
    refine gd hF111 (.int .i64 u0.Size) (m := 1) (cj := []) (bj := (decide (u0.Size < 0)) || (decide (u0.Size > 8))) rfl rfl (by kernel_rfl) rfl (by kernel_rfl) (by kernel_rfl) (by kernel_rfl) (fun hg => ld hF111 hM10 0 (g := [1]) (b := b6) (off := 4) (cs := [.int .i64 u0.ID, .bool u0.Long, .bool u0.Fast, .bool u0.Remote, .int .i64 u0.Size, .slice ao1 u0.Data.length cap2]) (ty := 24) rfl (by kernel_rfl) (by kernel_rfl) (by kernel_rfl) (by kernel_rfl) hg) ?_; intro a112 hF113; clear hF111
    refine gp hF113 38 1 [] ((decide (u0.Size < 0)) || (decide (u0.Size > 8))) (.bool (decide (u0.Size > 0))) rfl rfl ?_; intro a114 hF115; clear hF113
    refine gp hF115 39 1 [] ((decide (u0.Size < 0)) || (decide (u0.Size > 8))) (.bool (decide (u0.Size > 0))) rfl rfl ?_; intro a116 hF117; clear hF115
    have hF118 := hF117.atom ((decide (u0.Size > 0)) == true) (by kernel_rfl); clear hF117
    refine gp hF118 40 2 [1] (decide (u0.Size > 0)) (.pointer (some ⟨b6, 3, none⟩)) rfl rfl ?_; intro a119 hF120; clear hF118
    refine gd hF120 (.bool u0.Remote) (m := 2) (cj := [1]) (bj := decide (u0.Size > 0)) rfl rfl (by kernel_rfl) rfl (by kernel_rfl) (by kernel_rfl) (by kernel_rfl) (fun hg => ld hF120 hM10 0 (g := [2, 1]) (b := b6) (off := 3) (cs := [.int .i64 u0.ID, .bool u0.Long, .bool u0.Fast, .bool u0.Remote, .int .i64 u0.Size, .slice ao1 u0.Data.length cap2]) (ty := 24) rfl (by kernel_rfl) (by kernel_rfl) (by kernel_rfl) (by kernel_rfl) hg) ?_; intro a121 hF122; clear hF120
    refine gp hF122 42 2 [1] (decide (u0.Size > 0)) (.bool (!u0.Remote)) rfl rfl ?_; intro a123 hF124; clear hF122
    refine gd hF124 (.bool ((decide (u0.Size > 0)) && (!u0.Remote))) (m := 1) (cj := []) (bj := (decide (u0.Size < 0)) || (decide (u0.Size > 8))) rfl rfl (by kernel_rfl) rfl (by kernel_rfl) (by kernel_rfl) (by kernel_rfl) (fun hg => pk_and hF124 (g := [1]) (m := 2) (b := decide (u0.Size > 0)) (v := !u0.Remote) rfl (by kernel_rfl) (by kernel_rfl) (by kernel_rfl) hg) ?_; intro a125 hF126; clear hF124
    refine st hF126 (.bool (((decide (u0.Size < 0)) || (decide (u0.Size > 8))) || ((decide (u0.Size > 0)) && (!u0.Remote)))) (nog rfl _) rfl (by kernel_rfl) (pk_or hF126 (g := []) (m := 1) (b := (decide (u0.Size < 0)) || (decide (u0.Size > 8))) (v := (decide (u0.Size > 0)) && (!u0.Remote)) rfl (by kernel_rfl) (by kernel_rfl) (by kernel_rfl) rfl) ?_; intro a127 hF128; clear hF126
    refine nlH (hQ89 _ _ ?_); clear hQ89 hQ89Q
    refine cd hF128 (t := ((decide (u0.Size < 0)) || (decide (u0.Size > 8))) || ((decide (u0.Size > 0)) && (!u0.Remote))) (by kernel_rfl) (fun hb129 => ?_) (fun hb129 => ?_)
    ·
     have hp130 := hp87.1 hb129; clear hp87
     have hF131 : Fr 66 [] [] a127 := hF128.reg; clear hF128
     refine sqH ?_; intro hQ132Q hQ132
     refine s1 hF131 2 (.int .i64 3) ?_; intro a133 hF134; clear hF131
     refine nlH (hQ132 _ _ ?_); clear hQ132 hQ132Q
     refine wp_ret ?_
     refine thr ?_
     refine rt (fn := Tryz.f17) (v := .int .i64 3) hF134 (re1 hF134 (fn := Tryz.f17) rfl (by kernel_rfl)) ?_
     exact ⟨3, rfl, hp130, hM10.below⟩
    ·
     have hp135 := hp87.2 hb129; clear hp87
     refine wp_skip ?_
     refine thn ?_
     refine wp_seq ?_
     have hF136 : Fr 66 [] [⟨1, [], .pointer (some ⟨b6, 0, none⟩)⟩] a127 := hF128.reg; clear hF128
     refine sqH ?_; intro hQ137Q hQ137
     refine s1 hF136 45 (.pointer (some ⟨b6, 5, none⟩)) ?_; intro a138 hF139; clear hF136
     refine l1 hF139 hM10 46 0 5 (.slice ao1 u0.Data.length cap2) rfl rfl ?_; intro a140 hF141; clear hF139
     refine s1 hF141 47 (.int .i64 (u0.Data.length : Int)) ?_; intro a142 hF143; clear hF141
     refine s1 hF143 48 (.bool (decide ((u0.Data.length : Int) > 64))) ?_; intro a144 hF145; clear hF143
     refine s1 hF145 49 (.bool (decide ((u0.Data.length : Int) > 64))) ?_; intro a146 hF147; clear hF145
     have hF148 := hF147.atom ((decide ((u0.Data.length : Int) > 64)) == false) (by kernel_rfl); clear hF147
     refine gp hF148 50 0 [] (decide ((u0.Data.length : Int) > 64)) (.pointer (some ⟨b6, 5, none⟩)) rfl rfl ?_; intro a149 hF150; clear hF148
     refine gd hF150 (.slice ao1 u0.Data.length cap2) (m := 0) (cj := []) (bj := decide ((u0.Data.length : Int) > 64)) rfl rfl (by kernel_rfl) rfl (by kernel_rfl) (by kernel_rfl) (by kernel_rfl) (fun hg => ld hF150 hM10 0 (g := [0]) (b := b6) (off := 5) (cs := [.int .i64 u0.ID, .bool u0.Long, .bool u0.Fast, .bool u0.Remote, .int .i64 u0.Size, .slice ao1 u0.Data.length cap2]) (ty := 24) rfl (by kernel_rfl) (by kernel_rfl) (by kernel_rfl) (by kernel_rfl) hg) ?_; intro a151 hF152; clear hF150
     refine gp hF152 52 0 [] (decide ((u0.Data.length : Int) > 64)) (.int .i64 (u0.Data.length : Int)) rfl rfl ?_; intro a153 hF154; clear hF152
     refine gp hF154 53 0 [] (decide ((u0.Data.length : Int) > 64)) (.bool (decide ((u0.Data.length : Int) > 8))) rfl rfl ?_; intro a155 hF156; clear hF154
     refine gp hF156 54 0 [] (decide ((u0.Data.length : Int) > 64)) (.bool (decide ((u0.Data.length : Int) > 8))) rfl rfl ?_; intro a157 hF158; clear hF156
     have hF159 := hF158.atom ((decide ((u0.Data.length : Int) > 8)) == true) (by kernel_rfl); clear hF158
     refine gp hF159 55 1 [0] (decide ((u0.Data.length : Int) > 8)) (.pointer (some ⟨b6, 2, none⟩)) rfl rfl ?_; intro a160 hF161; clear hF159
     refine gd hF161 (.bool u0.Fast) (m := 1) (cj := [0]) (bj := decide ((u0.Data.length : Int) > 8)) rfl rfl (by kernel_rfl) rfl (by kernel_rfl) (by kernel_rfl) (by kernel_rfl) (fun hg => ld hF161 hM10 0 (g := [1, 0]) (b := b6) (off := 2) (cs := [.int .i64 u0.ID, .bool u0.Long, .bool u0.Fast, .bool u0.Remote, .int .i64 u0.Size, .slice ao1 u0.Data.length cap2]) (ty := 24) rfl (by kernel_rfl) (by kernel_rfl) (by kernel_rfl) (by kernel_rfl) hg) ?_; intro a162 hF163; clear hF161
     refine gp hF163 57 1 [0] (decide ((u0.Data.length : Int) > 8)) (.bool (!u0.Fast)) rfl rfl ?_; intro a164 hF165; clear hF163
     refine gd hF165 (.bool ((decide ((u0.Data.length : Int) > 8)) && (!u0.Fast))) (m := 0) (cj := []) (bj := decide ((u0.Data.length : Int) > 64)) rfl rfl (by kernel_rfl) rfl (by kernel_rfl) (by kernel_rfl) (by kernel_rfl) (fun hg => pk_and hF165 (g := [0]) (m := 1) (b := decide ((u0.Data.length : Int) > 8)) (v := !u0.Fast) rfl (by kernel_rfl) (by kernel_rfl) (by kernel_rfl) hg) ?_; intro a166 hF167; clear hF165
     refine st hF167 (.bool ((decide ((u0.Data.length : Int) > 64)) || ((decide ((u0.Data.length : Int) > 8)) && (!u0.Fast)))) (nog rfl _) rfl (by kernel_rfl) (pk_or hF167 (g := []) (m := 0) (b := decide ((u0.Data.length : Int) > 64)) (v := (decide ((u0.Data.length : Int) > 8)) && (!u0.Fast)) rfl (by kernel_rfl) (by kernel_rfl) (by kernel_rfl) rfl) ?_; intro a168 hF169; clear hF167
     refine nlH (hQ137 _ _ ?_); clear hQ137 hQ137Q
     refine cd hF169 (t := (decide ((u0.Data.length : Int) > 64)) || ((decide ((u0.Data.length : Int) > 8)) && (!u0.Fast))) (by kernel_rfl) (fun hb170 => ?_) (fun hb170 => ?_)
     ·
      have hp171 := hp135.1 hb170; clear hp135
      have hF172 : Fr 66 [] [] a168 := hF169.reg; clear hF169
      refine sqH ?_; intro hQ173Q hQ173
      refine s1 hF172 2 (.int .i64 2) ?_; intro a174 hF175; clear hF172
      refine nlH (hQ173 _ _ ?_); clear hQ173 hQ173Q
      refine wp_ret ?_
      refine thr ?_
      refine rt (fn := Tryz.f17) (v := .int .i64 2) hF175 (re1 hF175 (fn := Tryz.f17) rfl (by kernel_rfl)) ?_
      exact ⟨2, rfl, hp171, hM10.below⟩
     ·
      have hp176 := hp135.2 hb170; clear hp135
      refine wp_skip ?_
      refine thn ?_
      refine wp_seq ?_
      have hF177 : Fr 66 [] [⟨1, [], .pointer (some ⟨b6, 0, none⟩)⟩] a168 := hF169.reg; clear hF169
      refine wp_seq (any_invE mixed [[], [], [1], [2], [0, 3], [4]] 6 (fun S a w1 => ∃ (ao182 : Option Addr) (cap183 : Nat) (ud60 : Value) (ud61 : Value) (ud62 : Value) (ud63 : Value) (ud64 : Value) (ud65 : Value) (rh0 : Res) (rh1 : Res) (Z204 : Fz), Fz.le Z Z204 ∧ Fr 66 [] [⟨1, [], .pointer (some ⟨b6, 0, none⟩)⟩, ⟨60, [], ud60⟩, ⟨61, [], ud61⟩, ⟨62, [], ud62⟩, ⟨63, [], ud63⟩, ⟨64, [], ud64⟩, ⟨65, [], ud65⟩] a ∧ Mem w.heap.size [] w Z [rh0, rh1] Z204 w1 ∧ (S 0 = true → ud60 = .slice ao182 rsizes.length cap183) ∧ (S 1 = true → ud61 = .pointer (some ⟨b6, 5, none⟩)) ∧ (S 2 = true → ud62 = .slice ao1 u0.Data.length cap2) ∧ (S 3 = true → ud63 = .int .i64 (u0.Data.length : Int)) ∧ (S 4 = true → ud64 = .bool (scontainsS rsizes (u0.Data.length : Int))) ∧ (S 5 = true → ud65 = .bool (!(scontainsS rsizes (u0.Data.length : Int)))) ∧ (rh0 = .row b6 [.int .i64 u0.ID, .bool u0.Long, .bool u0.Fast, .bool u0.Remote, .int .i64 u0.Size, .slice ao1 u0.Data.length cap2] 24) ∧ (S 0 = false → rh1 = .nil) ∧ (S 0 = true → S 4 = false → rh1 = .own (tyInt .i64) 3 ao182 cap183 rsizes) ∧ (S 4 = true → rh1 = .nil) ∧ (S 4 = true → SlR (tyInt .i64) Z204 ao182 cap183 rsizes)) ?h0 ?hs ?hE)
      case h0 =>
       have hF206 := hF177.any 60
       have hF207 := hF206.any 61
       have hF208 := hF207.any 62
       have hF209 := hF208.any 63
       have hF210 := hF209.any 64
       have hF211 := hF210.any 65
       have hM212 := hM10.nilRes
       have hM213 := (hM212.perm ((pk 1 rfl).trans (lpr.cons _))).drew
       exact ⟨none, 0, a168.tmps.getD 60 undef, a168.tmps.getD 61 undef, a168.tmps.getD 62 undef, a168.tmps.getD 63 undef, a168.tmps.getD 64 undef, a168.tmps.getD 65 undef, .row b6 [.int .i64 u0.ID, .bool u0.Long, .bool u0.Fast, .bool u0.Remote, .int .i64 u0.Size, .slice ao1 u0.Data.length cap2] 24, .nil, Z, Fz.le.refl _, hF211.reg, hM213, ff, ff, ff, ff, ff, ff, rfl, kf, ff, ff, ff⟩
      case hs =>
       intro S hcl i o hil hi hSi hpre a w1 hI; refine Go.Sy.hid ?_; intro G hG; obtain ⟨ao182, cap183, ud60, ud61, ud62, ud63, ud64, ud65, rh0, rh1, Z204, hle205, hFx, hMx, cu60, cu61, cu62, cu63, cu64, cu65, cr0_0, cr1_0, cr1_1, cr1_2, hI⟩ := hI; have cf0 := hI; clear hI
       have hcase : i = 0 ∨ i = 1 ∨ i = 2 ∨ i = 3 ∨ i = 4 ∨ i = 5 := by clear hi; omega
       rcases hcase with rfl | rfl | rfl | rfl | rfl | rfl
       ·
        obtain rfl := oj hi
        have hx0 := hSi
        have hx4 := ngF hcl 4 0 hx0
        have hx5 := ngF hcl 5 4 hx4
        obtain rfl := cr0_0
        obtain rfl := cr1_0 hx0
        refine hG (any_step ?_); clear hG G; intro A J hJ
        have hle0 := Fz.le.trans hle0 hle205
        have hzst := Fz.le.refl Z204
        have hs214 := hs3.mono hle205
        have hM215 := hMx.keep (List.Sublist.cons_cons _ (List.Sublist.cons _ (List.Sublist.slnil))); clear hMx
        refine cl hFx 48 #[] (nog rfl _) rfl (by kernel_rfl) (by kernel_rfl) ?_
        refine (rsizes_fun  _ _ hM215.fz).mono ?_; rintro _ wd216 ⟨ao220, cap221, Z222, rfl, hm⟩; refine ⟨_, rfl, ?_⟩; intro a217 hF218; have hM219 := hM215.callZ hm; have hle223 := hm.ext.le; clear hm hM215 hFx
        replace hzst := hzst.mono hle223
        replace hs214 := hs214.mono hle223
        replace hle0 := Fz.le.trans hle0 hle223
        have hM224 : Mem w.heap.size [] w Z [.own (tyInt .i64) 3 ao220 cap221 rsizes, .row b6 [.int .i64 u0.ID, .bool u0.Long, .bool u0.Fast, .bool u0.Remote, .int .i64 u0.Size, .slice ao1 u0.Data.length cap2] 24] Z222 wd216 := hM219; clear hM219
        refine nl (qnI (hJ _ _ ?_)); clear hJ J
        exact ⟨ao220, cap221, .slice ao220 rsizes.length cap221, ud61, ud62, ud63, ud64, ud65, .row b6 [.int .i64 u0.ID, .bool u0.Long, .bool u0.Fast, .bool u0.Remote, .int .i64 u0.Size, .slice ao1 u0.Data.length cap2] 24, .own (tyInt .i64) 3 ao220 cap221 rsizes, Z222, hle205.trans hzst, hF218.reg, hM224.perm ((pk 1 rfl).trans (lpr.cons _)), kf, cu61, cu62, cu63, (nt hx4), (nt hx5), rfl, nu, kf2, (nt hx4), (nt hx4)⟩
       ·
        obtain rfl := oj hi
        have hx1 := hSi
        have hx2 := ngF hcl 2 1 hx1
        have hx3 := ngF hcl 3 2 hx2
        have hx4 := ngF hcl 4 3 hx3
        have hx5 := ngF hcl 5 4 hx4
        obtain rfl := cr0_0
        refine hG (any_step ?_); clear hG G; intro A J hJ
        have hle0 := Fz.le.trans hle0 hle205
        have hzst := Fz.le.refl Z204
        have hs226 := hs3.mono hle205
        refine s1 hFx 61 (.pointer (some ⟨b6, 5, none⟩)) ?_; intro a227 hF228; clear hFx
        refine nl (qnI (hJ _ _ ?_)); clear hJ J
        exact ⟨ao182, cap183, ud60, .pointer (some ⟨b6, 5, none⟩), ud62, ud63, ud64, ud65, .row b6 [.int .i64 u0.ID, .bool u0.Long, .bool u0.Fast, .bool u0.Remote, .int .i64 u0.Size, .slice ao1 u0.Data.length cap2] 24, rh1, Z204, hle205, hF228.reg, hMx.perm lpr, cu60, kf, (nt hx2), (nt hx3), (nt hx4), (nt hx5), rfl, cr1_0, cr1_1, (nt hx4), (nt hx4)⟩
       ·
        obtain rfl := oj hi
        have hx1 := hpre 1 (by kernel_rfl)
        have hx2 := hSi
        have hx3 := ngF hcl 3 2 hx2
        have hx4 := ngF hcl 4 3 hx3
        have hx5 := ngF hcl 5 4 hx4
        obtain rfl := cu61 hx1
        obtain rfl := cr0_0
        refine hG (any_step ?_); clear hG G; intro A J hJ
        have hle0 := Fz.le.trans hle0 hle205
        have hzst := Fz.le.refl Z204
        have hs230 := hs3.mono hle205
        refine l1 hFx hMx 62 0 5 (.slice ao1 u0.Data.length cap2) rfl rfl ?_; intro a231 hF232; clear hFx
        refine nl (qnI (hJ _ _ ?_)); clear hJ J
        exact ⟨ao182, cap183, ud60, .pointer (some ⟨b6, 5, none⟩), .slice ao1 u0.Data.length cap2, ud63, ud64, ud65, .row b6 [.int .i64 u0.ID, .bool u0.Long, .bool u0.Fast, .bool u0.Remote, .int .i64 u0.Size, .slice ao1 u0.Data.length cap2] 24, rh1, Z204, hle205, hF232.reg, hMx.perm lpr, cu60, kf, kf, (nt hx3), (nt hx4), (nt hx5), rfl, cr1_0, cr1_1, (nt hx4), (nt hx4)⟩
       ·
        obtain rfl := oj hi
        have hx2 := hpre 2 (by kernel_rfl)
        have hx1 := hcl 2 1 (by kernel_rfl) hx2
        have hx3 := hSi
        have hx4 := ngF hcl 4 3 hx3
        have hx5 := ngF hcl 5 4 hx4
        obtain rfl := cu61 hx1
        obtain rfl := cu62 hx2
        obtain rfl := cr0_0
        refine hG (any_step ?_); clear hG G; intro A J hJ
        have hle0 := Fz.le.trans hle0 hle205
        have hzst := Fz.le.refl Z204
        have hs234 := hs3.mono hle205
        refine s1 hFx 63 (.int .i64 (u0.Data.length : Int)) ?_; intro a235 hF236; clear hFx
        refine nl (qnI (hJ _ _ ?_)); clear hJ J
        exact ⟨ao182, cap183, ud60, .pointer (some ⟨b6, 5, none⟩), .slice ao1 u0.Data.length cap2, .int .i64 (u0.Data.length : Int), ud64, ud65, .row b6 [.int .i64 u0.ID, .bool u0.Long, .bool u0.Fast, .bool u0.Remote, .int .i64 u0.Size, .slice ao1 u0.Data.length cap2] 24, rh1, Z204, hle205, hF236.reg, hMx.perm lpr, cu60, kf, kf, kf, (nt hx4), (nt hx5), rfl, cr1_0, cr1_1, (nt hx4), (nt hx4)⟩
       ·
        obtain rfl := oj hi
        have hx3 := hpre 3 (by kernel_rfl)
        have hx0 := hpre 0 (by kernel_rfl)
        have hx2 := hcl 3 2 (by kernel_rfl) hx3
        have hx1 := hcl 2 1 (by kernel_rfl) hx2
        have hx4 := hSi
        have hx5 := ngF hcl 5 4 hx4
        obtain rfl := cu60 hx0
        obtain rfl := cu61 hx1
        obtain rfl := cu62 hx2
        obtain rfl := cu63 hx3
        obtain rfl := cr0_0
        obtain rfl := cr1_1 hx0 hx4
        refine hG (any_step ?_); clear hG G; intro A J hJ
        have hle0 := Fz.le.trans hle0 hle205
        have hzst := Fz.le.refl Z204
        have hs238 := hs3.mono hle205
        obtain ⟨Z239, hle240, hM241, hs242⟩ := hMx.freeze 1 rfl
        replace hzst := hzst.mono hle240
        replace hs238 := hs238.mono hle240
        replace hle0 := Fz.le.trans hle0 hle240
        have hM243 : Mem w.heap.size [] w Z [.row b6 [.int .i64 u0.ID, .bool u0.Long, .bool u0.Fast, .bool u0.Remote, .int .i64 u0.Size, .slice ao1 u0.Data.length cap2] 24] Z239 w1 := hM241; clear hM241
        refine fcl hFx hM243 (.bool (scontainsS rsizes (u0.Data.length : Int))) 58 #[.slice ao182 rsizes.length cap183, .int .i64 (u0.Data.length : Int)] (nog rfl _) rfl (by kernel_rfl) (fun _ => by kernel_rfl) (scontains_fun rsizes (u0.Data.length : Int) ao182 cap183 _ _ hs242 hM243.fz) ?_; intro a244 wd246 hF245 hM247; clear hFx hM243
        refine nl (qnI (hJ _ _ ?_)); clear hJ J
        have hM248 := hM247.nilRes
        exact ⟨ao182, cap183, .slice ao182 rsizes.length cap183, .pointer (some ⟨b6, 5, none⟩), .slice ao1 u0.Data.length cap2, .int .i64 (u0.Data.length : Int), .bool (scontainsS rsizes (u0.Data.length : Int)), ud65, .row b6 [.int .i64 u0.ID, .bool u0.Long, .bool u0.Fast, .bool u0.Remote, .int .i64 u0.Size, .slice ao1 u0.Data.length cap2] 24, .nil, Z239, hle205.trans hzst, hF245.reg, hM248.perm ((pk 1 rfl).trans (lpr.cons _)), kf, kf, kf, kf, kf, (nt hx5), rfl, (tn hx0), (fun _ => nu), kf, (fun _ => hs242)⟩
       ·
        obtain rfl := oj hi
        have hx4 := hpre 4 (by kernel_rfl)
        have hx3 := hcl 4 3 (by kernel_rfl) hx4
        have hx0 := hcl 4 0 (by kernel_rfl) hx4
        have hx2 := hcl 3 2 (by kernel_rfl) hx3
        have hx1 := hcl 2 1 (by kernel_rfl) hx2
        have hx5 := hSi
        obtain rfl := cu60 hx0
        obtain rfl := cu61 hx1
        obtain rfl := cu62 hx2
        obtain rfl := cu63 hx3
        obtain rfl := cu64 hx4
        obtain rfl := cr0_0
        obtain rfl := cr1_2 hx4
        refine hG (any_step ?_); clear hG G; intro A J hJ
        have hle0 := Fz.le.trans hle0 hle205
        have hzst := Fz.le.refl Z204
        have hs250 := hs3.mono hle205
        have hs251 := cf0 hx4
        have hM252 := hMx.keep (List.Sublist.cons_cons _ (List.Sublist.cons _ (List.Sublist.slnil))); clear hMx
        refine s1 hFx 65 (.bool (!(scontainsS rsizes (u0.Data.length : Int)))) ?_; intro a253 hF254; clear hFx
        refine nl (qnI (hJ _ _ ?_)); clear hJ J
        have hM255 := hM252.nilRes
        exact ⟨ao182, cap183, .slice ao182 rsizes.length cap183, .pointer (some ⟨b6, 5, none⟩), .slice ao1 u0.Data.length cap2, .int .i64 (u0.Data.length : Int), .bool (scontainsS rsizes (u0.Data.length : Int)), .bool (!(scontainsS rsizes (u0.Data.length : Int))), .row b6 [.int .i64 u0.ID, .bool u0.Long, .bool u0.Fast, .bool u0.Remote, .int .i64 u0.Size, .slice ao1 u0.Data.length cap2] 24, .nil, Z204, hle205, hF254.reg, hM255.perm ((pk 1 rfl).trans (lpr.cons _)), kf, kf, kf, kf, kf, kf, rfl, (tn hx0), (fun _ => tn hx4), kf, (fun _ => hs251)⟩
      case hE =>
       intro S hS a257 wd258 hI; refine Go.Sy.hid ?_; intro G hG; obtain ⟨ao182, cap183, ud60, ud61, ud62, ud63, ud64, ud65, rh0, rh1, Z204, hle205, hFx, hMx, cu60, cu61, cu62, cu63, cu64, cu65, cr0_0, cr1_0, cr1_1, cr1_2, hI⟩ := hI; have cf0 := hI; clear hI; refine hG ?_; clear hG G
       obtain rfl := cu60 (hS 0 (by decide))
       obtain rfl := cu61 (hS 1 (by decide))
       obtain rfl := cu62 (hS 2 (by decide))
       obtain rfl := cu63 (hS 3 (by decide))
       obtain rfl := cu64 (hS 4 (by decide))
       obtain rfl := cu65 (hS 5 (by decide))
       obtain rfl := cr0_0
       obtain rfl := cr1_2 (hS 4 (by decide))
       have hle0 := Fz.le.trans hle0 hle205
       have hs259 := hs3.mono hle205
       have hs260 := cf0 (hS 4 (by decide))
       have hMx := hMx.keep (List.Sublist.cons_cons _ (List.Sublist.cons _ (List.Sublist.slnil)))
       refine thn ?_
       refine cd hFx (t := !(scontainsS rsizes (u0.Data.length : Int))) (by kernel_rfl) (fun hb261 => ?_) (fun hb261 => ?_)
       ·
        have hp262 := hp176.1 hb261; clear hp176
        have hF263 : Fr 66 [] [] a257 := hFx.reg; clear hFx
        refine sqH ?_; intro hQ264Q hQ264
        refine s1 hF263 2 (.int .i64 4) ?_; intro a265 hF266; clear hF263
        refine nlH (hQ264 _ _ ?_); clear hQ264 hQ264Q
        refine wp_ret ?_
        refine thr ?_
        refine rt (fn := Tryz.f17) (v := .int .i64 4) hF266 (re1 hF266 (fn := Tryz.f17) rfl (by kernel_rfl)) ?_
        exact ⟨4, rfl, hp262, hMx.below⟩
       ·
        have hp267 := hp176.2 hb261; clear hp176
        refine wp_skip ?_
        refine thn ?_
        have hF268 : Fr 66 [] [] a257 := hFx.reg; clear hFx
        refine sqH ?_; intro hQ269Q hQ269
        refine s1 hF268 2 (.int .i64 0) ?_; intro a270 hF271; clear hF268
        refine nlH (hQ269 _ _ ?_); clear hQ269 hQ269Q
        refine wp_ret ?_
        refine rt (fn := Tryz.f17) (v := .int .i64 0) hF271 (re1 hF271 (fn := Tryz.f17) rfl (by kernel_rfl)) ?_
        exact ⟨0, rfl, hp267, hMx.below⟩
 ·
  have hp272 := hp4.2 hb21; clear hp4
  refine wp_skip ?_
  refine thn ?_
  refine wp_seq ?_
  refine sqH ?_; intro hQ273Q hQ273
  refine s1 hF20 6 (.pointer (some ⟨b6, 0, none⟩)) ?_; intro a274 hF275; clear hF20
  refine l1 hF275 hM10 7 0 0 (.int .i64 u0.ID) rfl rfl ?_; intro a276 hF277; clear hF275
  refine s1 hF277 8 (.bool (decide (u0.ID < 0))) ?_; intro a278 hF279; clear hF277
  refine s1 hF279 9 (.bool (decide (u0.ID < 0))) ?_; intro a280 hF281; clear hF279
  have hF282 := hF281.atom ((decide (u0.ID < 0)) == false) (by kernel_rfl); clear hF281
  refine gp hF282 10 0 [] (decide (u0.ID < 0)) (.pointer (some ⟨b6, 0, none⟩)) rfl rfl ?_; intro a283 hF284; clear hF282
  refine gd hF284 (.int .i64 u0.ID) (m := 0) (cj := []) (bj := decide (u0.ID < 0)) rfl rfl (by kernel_rfl) rfl (by kernel_rfl) (by kernel_rfl) (by kernel_rfl) (fun hg => ld hF284 hM10 0 (g := [0]) (b := b6) (off := 0) (cs := [.int .i64 u0.ID, .bool u0.Long, .bool u0.Fast, .bool u0.Remote, .int .i64 u0.Size, .slice ao1 u0.Data.length cap2]) (ty := 24) rfl (by kernel_rfl) (by kernel_rfl) (by kernel_rfl) (by kernel_rfl) hg) ?_; intro a285 hF286; clear hF284
  refine gp hF286 12 0 [] (decide (u0.ID < 0)) (.int .i64 2047) rfl rfl ?_; intro a287 hF288; clear hF286
  refine gp hF288 13 0 [] (decide (u0.ID < 0)) (.bool (decide (u0.ID > 2047))) rfl rfl ?_; intro a289 hF290; clear hF288
  refine st hF290 (.bool ((decide (u0.ID < 0)) || (decide (u0.ID > 2047)))) (nog rfl _) rfl (by kernel_rfl) (pk_or hF290 (g := []) (m := 0) (b := decide (u0.ID < 0)) (v := decide (u0.ID > 2047)) rfl (by kernel_rfl) (by kernel_rfl) (by kernel_rfl) rfl) ?_; intro a291 hF292; clear hF290
  refine nlH (hQ273 _ _ ?_); clear hQ273 hQ273Q
  refine cd hF292 (t := (decide (u0.ID < 0)) || (decide (u0.ID > 2047))) (by kernel_rfl) (fun hb293 => ?_) (fun hb293 => ?_)
  ·
   have hp294 := hp272.1 hb293; clear hp272
   have hF295 : Fr 66 [] [] a291 := hF292.reg; clear hF292
   refine sqH ?_; intro hQ296Q hQ296
   refine s1 hF295 2 (.int .i64 3) ?_; intro a297 hF298; clear hF295
   refine nlH (hQ296 _ _ ?_); clear hQ296 hQ296Q
   refine wp_ret ?_
   refine thr ?_
   refine rt (fn := Tryz.f17) (v := .int .i64 3) hF298 (re1 hF298 (fn := Tryz.f17) rfl (by kernel_rfl)) ?_
   exact ⟨3, rfl, hp294, hM10.below⟩
  ·
   have hp299 := hp272.2 hb293; clear hp272
   refine wp_skip ?_
   refine thn ?_
   refine wp_seq ?_
   have hF300 : Fr 66 [] [⟨1, [], .pointer (some ⟨b6, 0, none⟩)⟩] a291 := hF292.reg; clear hF292
   refine sqH ?_; intro hQ301Q hQ301
   refine s1 hF300 15 (.pointer (some ⟨b6, 3, none⟩)) ?_; intro a302 hF303; clear hF300
   refine l1 hF303 hM10 16 0 3 (.bool u0.Remote) rfl rfl ?_; intro a304 hF305; clear hF303
   refine s1 hF305 17 (.bool u0.Remote) ?_; intro a306 hF307; clear hF305
   have hF308 := hF307.atom (u0.Remote == true) (by kernel_rfl); clear hF307
   refine gp hF308 18 0 [] (u0.Remote) (.pointer (some ⟨b6, 2, none⟩)) rfl rfl ?_; intro a309 hF310; clear hF308
   refine gd hF310 (.bool u0.Fast) (m := 0) (cj := []) (bj := u0.Remote) rfl rfl (by kernel_rfl) rfl (by kernel_rfl) (by kernel_rfl) (by kernel_rfl) (fun hg => ld hF310 hM10 0 (g := [0]) (b := b6) (off := 2) (cs := [.int .i64 u0.ID, .bool u0.Long, .bool u0.Fast, .bool u0.Remote, .int .i64 u0.Size, .slice ao1 u0.Data.length cap2]) (ty := 24) rfl (by kernel_rfl) (by kernel_rfl) (by kernel_rfl) (by kernel_rfl) hg) ?_; intro a311 hF312; clear hF310
   refine gp hF312 20 0 [] (u0.Remote) (.bool u0.Fast) rfl rfl ?_; intro a313 hF314; clear hF312
   have hF315 := hF314.atom (u0.Fast == false) (by kernel_rfl); clear hF314
   refine gp hF315 21 1 [0] (u0.Fast) (.pointer (some ⟨b6, 5, none⟩)) rfl rfl ?_; intro a316 hF317; clear hF315
   refine gd hF317 (.slice ao1 u0.Data.length cap2) (m := 1) (cj := [0]) (bj := u0.Fast) rfl rfl (by kernel_rfl) rfl (by kernel_rfl) (by kernel_rfl) (by kernel_rfl) (fun hg => ld hF317 hM10 0 (g := [1, 0]) (b := b6) (off := 5) (cs := [.int .i64 u0.ID, .bool u0.Long, .bool u0.Fast, .bool u0.Remote, .int .i64 u0.Size, .slice ao1 u0.Data.length cap2]) (ty := 24) rfl (by kernel_rfl) (by kernel_rfl) (by kernel_rfl) (by kernel_rfl) hg) ?_; intro a318 hF319; clear hF317
   refine gp hF319 23 1 [0] (u0.Fast) (.int .i64 (u0.Data.length : Int)) rfl rfl ?_; intro a320 hF321; clear hF319
   refine gp hF321 24 1 [0] (u0.Fast) (.bool ((u0.Data.length : Int) != 0)) rfl rfl ?_; intro a322 hF323; clear hF321
   refine gd hF323 (.bool (u0.Fast || ((u0.Data.length : Int) != 0))) (m := 0) (cj := []) (bj := u0.Remote) rfl rfl (by kernel_rfl) rfl (by kernel_rfl) (by kernel_rfl) (by kernel_rfl) (fun hg => pk_or hF323 (g := [0]) (m := 1) (b := u0.Fast) (v := (u0.Data.length : Int) != 0) rfl (by kernel_rfl) (by kernel_rfl) (by kernel_rfl) hg) ?_; intro a324 hF325; clear hF323
   refine st hF325 (.bool (u0.Remote && (u0.Fast || ((u0.Data.length : Int) != 0)))) (nog rfl _) rfl (by kernel_rfl) (pk_and hF325 (g := []) (m := 0) (b := u0.Remote) (v := u0.Fast || ((u0.Data.length : Int) != 0)) rfl (by kernel_rfl) (by kernel_rfl) (by kernel_rfl) rfl) ?_; intro a326 hF327; clear hF325
   refine nlH (hQ301 _ _ ?_); clear hQ301 hQ301Q
   refine cd hF327 (t := u0.Remote && (u0.Fast || ((u0.Data.length : Int) != 0))) (by kernel_rfl) (fun hb328 => ?_) (fun hb328 => ?_)
   ·
    have hp329 := hp299.1 hb328; clear hp299
    have hF330 : Fr 66 [] [] a326 := hF327.reg; clear hF327
    refine sqH ?_; intro hQ331Q hQ331
    refine s1 hF330 2 (.int .i64 4) ?_; intro a332 hF333; clear hF330
    refine nlH (hQ331 _ _ ?_); clear hQ331 hQ331Q
    refine wp_ret ?_
    refine thr ?_
    refine rt (fn := Tryz.f17) (v := .int .i64 4) hF333 (re1 hF333 (fn := Tryz.f17) rfl (by kernel_rfl)) ?_
    exact ⟨4, rfl, hp329, hM10.below⟩
   ·
    have hp334 := hp299.2 hb328; clear hp299
    refine wp_skip ?_
    refine thn ?_
    refine wp_seq ?_
    have hF335 : Fr 66 [] [⟨1, [], .pointer (some ⟨b6, 0, none⟩)⟩] a326 := hF327.reg; clear hF327
    refine sqH ?_; intro hQ336Q hQ336
    refine s1 hF335 27 (.pointer (some ⟨b6, 4, none⟩)) ?_; intro a337 hF338; clear hF335
    refine l1 hF338 hM10 28 0 4 (.int .i64 u0.Size) rfl rfl ?_; intro a339 hF340; clear hF338
    refine s1 hF340 29 (.bool (decide (u0.Size < 0))) ?_; intro a341 hF342; clear hF340
    refine s1 hF342 30 (.bool (decide (u0.Size < 0))) ?_; intro a343 hF344; clear hF342
    have hF345 := hF344.atom ((decide (u0.Size < 0)) == false) (by kernel_rfl); clear hF344
    refine gp hF345 31 0 [] (decide (u0.Size < 0)) (.pointer (some ⟨b6, 4, none⟩)) rfl rfl ?_; intro a346 hF347; clear hF345
    refine gd hF347 (.int .i64 u0.Size) (m := 0) (cj := []) (bj := decide (u0.Size < 0)) rfl rfl (by kernel_rfl) rfl (by kernel_rfl) (by kernel_rfl) (by kernel_rfl) (fun hg => ld hF347 hM10 0 (g := [0]) (b := b6) (off := 4) (cs := [.int .i64 u0.ID, .bool u0.Long, .bool u0.Fast, .bool u0.Remote, .int .i64 u0.Size, .slice ao1 u0.Data.length cap2]) (ty := 24) rfl (by kernel_rfl) (by kernel_rfl) (by kernel_rfl) (by kernel_rfl) hg) ?_; intro a348 hF349; clear hF347
    refine gp hF349 33 0 [] (decide (u0.Size < 0)) (.bool (decide (u0.Size > 8))) rfl rfl ?_; intro a350 hF351; clear hF349
    refine st hF351 (.bool ((decide (u0.Size < 0)) || (decide (u0.Size > 8)))) (nog rfl _) rfl (by kernel_rfl) (pk_or hF351 (g := []) (m := 0) (b := decide (u0.Size < 0)) (v := decide (u0.Size > 8)) rfl (by kernel_rfl) (by kernel_rfl) (by kernel_rfl) rfl) ?_; intro a352 hF353; clear hF351
    refine s1 hF353 35 (.bool ((decide (u0.Size < 0)) || (decide (u0.Size > 8)))) ?_; intro a354 hF355; clear hF353
    have hF356 := hF355.atom (((decide (u0.Size < 0)) || (decide (u0.Size > 8))) == false) (by kernel_rfl); clear hF355
    refine gp hF356 36 1 [] ((decide (u0.Size < 0)) || (decide (u0.Size > 8))) (.pointer (some ⟨b6, 4, none⟩)) rfl rfl ?_; intro a357 hF358; clear hF356
    refine gd hF358 (.int .i64 u0.Size) (m := 1) (cj := []) (bj := (decide (u0.Size < 0)) || (decide (u0.Size > 8))) rfl rfl (by kernel_rfl) rfl (by kernel_rfl) (by kernel_rfl) (by kernel_rfl) (fun hg => ld hF358 hM10 0 (g := [1]) (b := b6) (off := 4) (cs := [.int .i64 u0.ID, .bool u0.Long, .bool u0.Fast, .bool u0.Remote, .int .i64 u0.Size, .slice ao1 u0.Data.length cap2]) (ty := 24) rfl (by kernel_rfl) (by kernel_rfl) (by kernel_rfl) (by kernel_rfl) hg) ?_; intro a359 hF360; clear hF358
    refine gp hF360 38 1 [] ((decide (u0.Size < 0)) || (decide (u0.Size > 8))) (.bool (decide (u0.Size > 0))) rfl rfl ?_; intro a361 hF362; clear hF360
    refine gp hF362 39 1 [] ((decide (u0.Size < 0)) || (decide (u0.Size > 8))) (.bool (decide (u0.Size > 0))) rfl rfl ?_; intro a363 hF364; clear hF362
    have hF365 := hF364.atom ((decide (u0.Size > 0)) == true) (by kernel_rfl); clear hF364
    refine gp hF365 40 2 [1] (decide (u0.Size > 0)) (.pointer (some ⟨b6, 3, none⟩)) rfl rfl ?_; intro a366 hF367; clear hF365
    refine gd hF367 (.bool u0.Remote) (m := 2) (cj := [1]) (bj := decide (u0.Size > 0)) rfl rfl (by kernel_rfl) rfl (by kernel_rfl) (by kernel_rfl) (by kernel_rfl) (fun hg => ld hF367 hM10 0 (g := [2, 1]) (b := b6) (off := 3) (cs := [.int .i64 u0.ID, .bool u0.Long, .bool u0.Fast, .bool u0.Remote, .int .i64 u0.Size, .slice ao1 u0.Data.length cap2]) (ty := 24) rfl (by kernel_rfl) (by kernel_rfl) (by kernel_rfl) (by kernel_rfl) hg) ?_; intro a368 hF369; clear hF367
    refine gp hF369 42 2 [1] (decide (u0.Size > 0)) (.bool (!u0.Remote)) rfl rfl ?_; intro a370 hF371; clear hF369
    refine gd hF371 (.bool ((decide (u0.Size > 0)) && (!u0.Remote))) (m := 1) (cj := []) (bj := (decide (u0.Size < 0)) || (decide (u0.Size > 8))) rfl rfl (by kernel_rfl) rfl (by kernel_rfl) (by kernel_rfl) (by kernel_rfl) (fun hg => pk_and hF371 (g := [1]) (m := 2) (b := decide (u0.Size > 0)) (v := !u0.Remote) rfl (by kernel_rfl) (by kernel_rfl) (by kernel_rfl) hg) ?_; intro a372 hF373; clear hF371
    refine st hF373 (.bool (((decide (u0.Size < 0)) || (decide (u0.Size > 8))) || ((decide (u0.Size > 0)) && (!u0.Remote)))) (nog rfl _) rfl (by kernel_rfl) (pk_or hF373 (g := []) (m := 1) (b := (decide (u0.Size < 0)) || (decide (u0.Size > 8))) (v := (decide (u0.Size > 0)) && (!u0.Remote)) rfl (by kernel_rfl) (by kernel_rfl) (by kernel_rfl) rfl) ?_; intro a374 hF375; clear hF373
    refine nlH (hQ336 _ _ ?_); clear hQ336 hQ336Q
    refine cd hF375 (t := ((decide (u0.Size < 0)) || (decide (u0.Size > 8))) || ((decide (u0.Size > 0)) && (!u0.Remote))) (by kernel_rfl) (fun hb376 => ?_) (fun hb376 => ?_)
    ·
     have hp377 := hp334.1 hb376; clear hp334
     have hF378 : Fr 66 [] [] a374 := hF375.reg; clear hF375
     refine sqH ?_; intro hQ379Q hQ379
     refine s1 hF378 2 (.int .i64 3) ?_; intro a380 hF381; clear hF378
     refine nlH (hQ379 _ _ ?_); clear hQ379 hQ379Q
     refine wp_ret ?_
     refine thr ?_
     refine rt (fn := Tryz.f17) (v := .int .i64 3) hF381 (re1 hF381 (fn := Tryz.f17) rfl (by kernel_rfl)) ?_
     exact ⟨3, rfl, hp377, hM10.below⟩
    ·
     have hp382 := hp334.2 hb376; clear hp334
     refine wp_skip ?_
     refine thn ?_
     refine wp_seq ?_
     have hF383 : Fr 66 [] [⟨1, [], .pointer (some ⟨b6, 0, none⟩)⟩] a374 := hF375.reg; clear hF375
     refine sqH ?_; intro hQ384Q hQ384
     refine s1 hF383 45 (.pointer (some ⟨b6, 5, none⟩)) ?_; intro a385 hF386; clear hF383
     refine l1 hF386 hM10 46 0 5 (.slice ao1 u0.Data.length cap2) rfl rfl ?_; intro a387 hF388; clear hF386
     refine s1 hF388 47 (.int .i64 (u0.Data.length : Int)) ?_; intro a389 hF390; clear hF388
     refine s1 hF390 48 (.bool (decide ((u0.Data.length : Int) > 64))) ?_; intro a391 hF392; clear hF390
     refine s1 hF392 49 (.bool (decide ((u0.Data.length : Int) > 64))) ?_; intro a393 hF394; clear hF392
     have hF395 := hF394.atom ((decide ((u0.Data.length : Int) > 64)) == false) (by kernel_rfl); clear hF394
     refine gp hF395 50 0 [] (decide ((u0.Data.length : Int) > 64)) (.pointer (some ⟨b6, 5, none⟩)) rfl rfl ?_; intro a396 hF397; clear hF395
     refine gd hF397 (.slice ao1 u0.Data.length cap2) (m := 0) (cj := []) (bj := decide ((u0.Data.length : Int) > 64)) rfl rfl (by kernel_rfl) rfl (by kernel_rfl) (by kernel_rfl) (by kernel_rfl) (fun hg => ld hF397 hM10 0 (g := [0]) (b := b6) (off := 5) (cs := [.int .i64 u0.ID, .bool u0.Long, .bool u0.Fast, .bool u0.Remote, .int .i64 u0.Size, .slice ao1 u0.Data.length cap2]) (ty := 24) rfl (by kernel_rfl) (by kernel_rfl) (by kernel_rfl) (by kernel_rfl) hg) ?_; intro a398 hF399; clear hF397
     refine gp hF399 52 0 [] (decide ((u0.Data.length : Int) > 64)) (.int .i64 (u0.Data.length : Int)) rfl rfl ?_; intro a400 hF401; clear hF399
     refine gp hF401 53 0 [] (decide ((u0.Data.length : Int) > 64)) (.bool (decide ((u0.Data.length : Int) > 8))) rfl rfl ?_; intro a402 hF403; clear hF401
     refine gp hF403 54 0 [] (decide ((u0.Data.length : Int) > 64)) (.bool (decide ((u0.Data.length : Int) > 8))) rfl rfl ?_; intro a404 hF405; clear hF403
     have hF406 := hF405.atom ((decide ((u0.Data.length : Int) > 8)) == true) (by kernel_rfl); clear hF405
     refine gp hF406 55 1 [0] (decide ((u0.Data.length : Int) > 8)) (.pointer (some ⟨b6, 2, none⟩)) rfl rfl ?_; intro a407 hF408; clear hF406
     refine gd hF408 (.bool u0.Fast) (m := 1) (cj := [0]) (bj := decide ((u0.Data.length : Int) > 8)) rfl rfl (by kernel_rfl) rfl (by kernel_rfl) (by kernel_rfl) (by kernel_rfl) (fun hg => ld hF408 hM10 0 (g := [1, 0]) (b := b6) (off := 2) (cs := [.int .i64 u0.ID, .bool u0.Long, .bool u0.Fast, .bool u0.Remote, .int .i64 u0.Size, .slice ao1 u0.Data.length cap2]) (ty := 24) rfl (by kernel_rfl) (by kernel_rfl) (by kernel_rfl) (by kernel_rfl) hg) ?_; intro a409 hF410; clear hF408
     refine gp hF410 57 1 [0] (decide ((u0.Data.length : Int) > 8)) (.bool (!u0.Fast)) rfl rfl ?_; intro a411 hF412; clear hF410
     refine gd hF412 (.bool ((decide ((u0.Data.length : Int) > 8)) && (!u0.Fast))) (m := 0) (cj := []) (bj := decide ((u0.Data.length : Int) > 64)) rfl rfl (by kernel_rfl) rfl (by kernel_rfl) (by kernel_rfl) (by kernel_rfl) (fun hg => pk_and hF412 (g := [0]) (m := 1) (b := decide ((u0.Data.length : Int) > 8)) (v := !u0.Fast) rfl (by kernel_rfl) (by kernel_rfl) (by kernel_rfl) hg) ?_; intro a413 hF414; clear hF412
     refine st hF414 (.bool ((decide ((u0.Data.length : Int) > 64)) || ((decide ((u0.Data.length : Int) > 8)) && (!u0.Fast)))) (nog rfl _) rfl (by kernel_rfl) (pk_or hF414 (g := []) (m := 0) (b := decide ((u0.Data.length : Int) > 64)) (v := (decide ((u0.Data.length : Int) > 8)) && (!u0.Fast)) rfl (by kernel_rfl) (by kernel_rfl) (by kernel_rfl) rfl) ?_; intro a415 hF416; clear hF414
     refine nlH (hQ384 _ _ ?_); clear hQ384 hQ384Q
     refine cd hF416 (t := (decide ((u0.Data.length : Int) > 64)) || ((decide ((u0.Data.length : Int) > 8)) && (!u0.Fast))) (by kernel_rfl) (fun hb417 => ?_) (fun hb417 => ?_)
     ·
      have hp418 := hp382.1 hb417; clear hp382
      have hF419 : Fr 66 [] [] a415 := hF416.reg; clear hF416
      refine sqH ?_; intro hQ420Q hQ420
      refine s1 hF419 2 (.int .i64 2) ?_; intro a421 hF422; clear hF419
      refine nlH (hQ420 _ _ ?_); clear hQ420 hQ420Q
      refine wp_ret ?_
      refine thr ?_
      refine rt (fn := Tryz.f17) (v := .int .i64 2) hF422 (re1 hF422 (fn := Tryz.f17) rfl (by kernel_rfl)) ?_
      exact ⟨2, rfl, hp418, hM10.below⟩
     ·
      have hp423 := hp382.2 hb417; clear hp382
      refine wp_skip ?_
      refine thn ?_
      refine wp_seq ?_
      have hF424 : Fr 66 [] [⟨1, [], .pointer (some ⟨b6, 0, none⟩)⟩] a415 := hF416.reg; clear hF416
      refine wp_seq (any_invE mixed [[], [], [1], [2], [0, 3], [4]] 6 (fun S a w1 => ∃ (ao429 : Option Addr) (cap430 : Nat) (ud60 : Value) (ud61 : Value) (ud62 : Value) (ud63 : Value) (ud64 : Value) (ud65 : Value) (rh0 : Res) (rh1 : Res) (Z451 : Fz), Fz.le Z Z451 ∧ Fr 66 [] [⟨1, [], .pointer (some ⟨b6, 0, none⟩)⟩, ⟨60, [], ud60⟩, ⟨61, [], ud61⟩, ⟨62, [], ud62⟩, ⟨63, [], ud63⟩, ⟨64, [], ud64⟩, ⟨65, [], ud65⟩] a ∧ Mem w.heap.size [] w Z [rh0, rh1] Z451 w1 ∧ (S 0 = true → ud60 = .slice ao429 rsizes.length cap430) ∧ (S 1 = true → ud61 = .pointer (some ⟨b6, 5, none⟩)) ∧ (S 2 = true → ud62 = .slice ao1 u0.Data.length cap2) ∧ (S 3 = true → ud63 = .int .i64 (u0.Data.length : Int)) ∧ (S 4 = true → ud64 = .bool (scontainsS rsizes (u0.Data.length : Int))) ∧ (S 5 = true → ud65 = .bool (!(scontainsS rsizes (u0.Data.length : Int)))) ∧ (rh0 = .row b6 [.int .i64 u0.ID, .bool u0.Long, .bool u0.Fast, .bool u0.Remote, .int .i64 u0.Size, .slice ao1 u0.Data.length cap2] 24) ∧ (S 0 = false → rh1 = .nil) ∧ (S 0 = true → S 4 = false → rh1 = .own (tyInt .i64) 3 ao429 cap430 rsizes) ∧ (S 4 = true → rh1 = .nil) ∧ (S 4 = true → SlR (tyInt .i64) Z451 ao429 cap430 rsizes)) ?h0 ?hs ?hE)
      case h0 =>
       have hF453 := hF424.any 60
       have hF454 := hF453.any 61
       have hF455 := hF454.any 62
       have hF456 := hF455.any 63
       have hF457 := hF456.any 64
       have hF458 := hF457.any 65
       have hM459 := hM10.nilRes
       have hM460 := (hM459.perm ((pk 1 rfl).trans (lpr.cons _))).drew
       exact ⟨none, 0, a415.tmps.getD 60 undef, a415.tmps.getD 61 undef, a415.tmps.getD 62 undef, a415.tmps.getD 63 undef, a415.tmps.getD 64 undef, a415.tmps.getD 65 undef, .row b6 [.int .i64 u0.ID, .bool u0.Long, .bool u0.Fast, .bool u0.Remote, .int .i64 u0.Size, .slice ao1 u0.Data.length cap2] 24, .nil, Z, Fz.le.refl _, hF458.reg, hM460, ff, ff, ff, ff, ff, ff, rfl, kf, ff, ff, ff⟩
      case hs =>
       intro S hcl i o hil hi hSi hpre a w1 hI; refine Go.Sy.hid ?_; intro G hG; obtain ⟨ao429, cap430, ud60, ud61, ud62, ud63, ud64, ud65, rh0, rh1, Z451, hle452, hFx, hMx, cu60, cu61, cu62, cu63, cu64, cu65, cr0_0, cr1_0, cr1_1, cr1_2, hI⟩ := hI; have cf0 := hI; clear hI
       have hcase : i = 0 ∨ i = 1 ∨ i = 2 ∨ i = 3 ∨ i = 4 ∨ i = 5 := by clear hi; omega
       rcases hcase with rfl | rfl | rfl | rfl | rfl | rfl
       ·
        obtain rfl := oj hi
        have hx0 := hSi
        have hx4 := ngF hcl 4 0 hx0
        have hx5 := ngF hcl 5 4 hx4
        obtain rfl := cr0_0
        obtain rfl := cr1_0 hx0
        refine hG (any_step ?_); clear hG G; intro A J hJ
        have hle0 := Fz.le.trans hle0 hle452
        have hzst := Fz.le.refl Z451
        have hs461 := hs3.mono hle452
        have hM462 := hMx.keep (List.Sublist.cons_cons _ (List.Sublist.cons _ (List.Sublist.slnil))); clear hMx
        refine cl hFx 48 #[] (nog rfl _) rfl (by kernel_rfl) (by kernel_rfl) ?_
        refine (rsizes_fun  _ _ hM462.fz).mono ?_; rintro _ wd463 ⟨ao467, cap468, Z469, rfl, hm⟩; refine ⟨_, rfl, ?_⟩; intro a464 hF465; have hM466 := hM462.callZ hm; have hle470 := hm.ext.le; clear hm hM462 hFx
        replace hzst := hzst.mono hle470
        replace hs461 := hs461.mono hle470
        replace hle0 := Fz.le.trans hle0 hle470
        have hM471 : Mem w.heap.size [] w Z [.own (tyInt .i64) 3 ao467 cap468 rsizes, .row b6 [.int .i64 u0.ID, .bool u0.Long, .bool u0.Fast, .bool u0.Remote, .int .i64 u0.Size, .slice ao1 u0.Data.length cap2] 24] Z469 wd463 := hM466; clear hM466
        refine nl (qnI (hJ _ _ ?_)); clear hJ J
        exact ⟨ao467, cap468, .slice ao467 rsizes.length cap468, ud61, ud62, ud63, ud64, ud65, .row b6 [.int .i64 u0.ID, .bool u0.Long, .bool u0.Fast, .bool u0.Remote, .int .i64 u0.Size, .slice ao1 u0.Data.length cap2] 24, .own (tyInt .i64) 3 ao467 cap468 rsizes, Z469, hle452.trans hzst, hF465.reg, hM471.perm ((pk 1 rfl).trans (lpr.cons _)), kf, cu61, cu62, cu63, (nt hx4), (nt hx5), rfl, nu, kf2, (nt hx4), (nt hx4)⟩
       ·
        obtain rfl := oj hi
        have hx1 := hSi
        have hx2 := ngF hcl 2 1 hx1
        have hx3 := ngF hcl 3 2 hx2
        have hx4 := ngF hcl 4 3 hx3
        have hx5 := ngF hcl 5 4 hx4
        obtain rfl := cr0_0
        refine hG (any_step ?_); clear hG G; intro A J hJ
        have hle0 := Fz.le.trans hle0 hle452
        have hzst := Fz.le.refl Z451
        have hs473 := hs3.mono hle452
        refine s1 hFx 61 (.pointer (some ⟨b6, 5, none⟩)) ?_; intro a474 hF475; clear hFx
        refine nl (qnI (hJ _ _ ?_)); clear hJ J
        exact ⟨ao429, cap430, ud60, .pointer (some ⟨b6, 5, none⟩), ud62, ud63, ud64, ud65, .row b6 [.int .i64 u0.ID, .bool u0.Long, .bool u0.Fast, .bool u0.Remote, .int .i64 u0.Size, .slice ao1 u0.Data.length cap2] 24, rh1, Z451, hle452, hF475.reg, hMx.perm lpr, cu60, kf, (nt hx2), (nt hx3), (nt hx4), (nt hx5), rfl, cr1_0, cr1_1, (nt hx4), (nt hx4)⟩
       ·
        obtain rfl := oj hi
        have hx1 := hpre 1 (by kernel_rfl)
        have hx2 := hSi
        have hx3 := ngF hcl 3 2 hx2
        have hx4 := ngF hcl 4 3 hx3
        have hx5 := ngF hcl 5 4 hx4
        obtain rfl := cu61 hx1
        obtain rfl := cr0_0
        refine hG (any_step ?_); clear hG G; intro A J hJ
        have hle0 := Fz.le.trans hle0 hle452
        have hzst := Fz.le.refl Z451
        have hs477 := hs3.mono hle452
        refine l1 hFx hMx 62 0 5 (.slice ao1 u0.Data.length cap2) rfl rfl ?_; intro a478 hF479; clear hFx
        refine nl (qnI (hJ _ _ ?_)); clear hJ J
        exact ⟨ao429, cap430, ud60, .pointer (some ⟨b6, 5, none⟩), .slice ao1 u0.Data.length cap2, ud63, ud64, ud65, .row b6 [.int .i64 u0.ID, .bool u0.Long, .bool u0.Fast, .bool u0.Remote, .int .i64 u0.Size, .slice ao1 u0.Data.length cap2] 24, rh1, Z451, hle452, hF479.reg, hMx.perm lpr, cu60, kf, kf, (nt hx3), (nt hx4), (nt hx5), rfl, cr1_0, cr1_1, (nt hx4), (nt hx4)⟩
       ·
        obtain rfl := oj hi
        have hx2 := hpre 2 (by kernel_rfl)
        have hx1 := hcl 2 1 (by kernel_rfl) hx2
        have hx3 := hSi
        have hx4 := ngF hcl 4 3 hx3
        have hx5 := ngF hcl 5 4 hx4
        obtain rfl := cu61 hx1
        obtain rfl := cu62 hx2
        obtain rfl := cr0_0
        refine hG (any_step ?_); clear hG G; intro A J hJ
        have hle0 := Fz.le.trans hle0 hle452
        have hzst := Fz.le.refl Z451
        have hs481 := hs3.mono hle452
        refine s1 hFx 63 (.int .i64 (u0.Data.length : Int)) ?_; intro a482 hF483; clear hFx
        refine nl (qnI (hJ _ _ ?_)); clear hJ J
        exact ⟨ao429, cap430, ud60, .pointer (some ⟨b6, 5, none⟩), .slice ao1 u0.Data.length cap2, .int .i64 (u0.Data.length : Int), ud64, ud65, .row b6 [.int .i64 u0.ID, .bool u0.Long, .bool u0.Fast, .bool u0.Remote, .int .i64 u0.Size, .slice ao1 u0.Data.length cap2] 24, rh1, Z451, hle452, hF483.reg, hMx.perm lpr, cu60, kf, kf, kf, (nt hx4), (nt hx5), rfl, cr1_0, cr1_1, (nt hx4), (nt hx4)⟩
       ·
        obtain rfl := oj hi
        have hx3 := hpre 3 (by kernel_rfl)
        have hx0 := hpre 0 (by kernel_rfl)
        have hx2 := hcl 3 2 (by kernel_rfl) hx3
        have hx1 := hcl 2 1 (by kernel_rfl) hx2
        have hx4 := hSi
        have hx5 := ngF hcl 5 4 hx4
        obtain rfl := cu60 hx0
        obtain rfl := cu61 hx1
        obtain rfl := cu62 hx2
        obtain rfl := cu63 hx3
        obtain rfl := cr0_0
        obtain rfl := cr1_1 hx0 hx4
        refine hG (any_step ?_); clear hG G; intro A J hJ
        have hle0 := Fz.le.trans hle0 hle452
        have hzst := Fz.le.refl Z451
        have hs485 := hs3.mono hle452
        obtain ⟨Z486, hle487, hM488, hs489⟩ := hMx.freeze 1 rfl
        replace hzst := hzst.mono hle487
        replace hs485 := hs485.mono hle487
        replace hle0 := Fz.le.trans hle0 hle487
        have hM490 : Mem w.heap.size [] w Z [.row b6 [.int .i64 u0.ID, .bool u0.Long, .bool u0.Fast, .bool u0.Remote, .int .i64 u0.Size, .slice ao1 u0.Data.length cap2] 24] Z486 w1 := hM488; clear hM488
        refine fcl hFx hM490 (.bool (scontainsS rsizes (u0.Data.length : Int))) 58 #[.slice ao429 rsizes.length cap430, .int .i64 (u0.Data.length : Int)] (nog rfl _) rfl (by kernel_rfl) (fun _ => by kernel_rfl) (scontains_fun rsizes (u0.Data.length : Int) ao429 cap430 _ _ hs489 hM490.fz) ?_; intro a491 wd493 hF492 hM494; clear hFx hM490
        refine nl (qnI (hJ _ _ ?_)); clear hJ J
        have hM495 := hM494.nilRes
        exact ⟨ao429, cap430, .slice ao429 rsizes.length cap430, .pointer (some ⟨b6, 5, none⟩), .slice ao1 u0.Data.length cap2, .int .i64 (u0.Data.length : Int), .bool (scontainsS rsizes (u0.Data.length : Int)), ud65, .row b6 [.int .i64 u0.ID, .bool u0.Long, .bool u0.Fast, .bool u0.Remote, .int .i64 u0.Size, .slice ao1 u0.Data.length cap2] 24, .nil, Z486, hle452.trans hzst, hF492.reg, hM495.perm ((pk 1 rfl).trans (lpr.cons _)), kf, kf, kf, kf, kf, (nt hx5), rfl, (tn hx0), (fun _ => nu), kf, (fun _ => hs489)⟩
       ·
        obtain rfl := oj hi
        have hx4 := hpre 4 (by kernel_rfl)
        have hx3 := hcl 4 3 (by kernel_rfl) hx4
        have hx0 := hcl 4 0 (by kernel_rfl) hx4
        have hx2 := hcl 3 2 (by kernel_rfl) hx3
        have hx1 := hcl 2 1 (by kernel_rfl) hx2
        have hx5 := hSi
        obtain rfl := cu60 hx0
        obtain rfl := cu61 hx1
        obtain rfl := cu62 hx2
        obtain rfl := cu63 hx3
        obtain rfl := cu64 hx4
        obtain rfl := cr0_0
        obtain rfl := cr1_2 hx4
        refine hG (any_step ?_); clear hG G; intro A J hJ
        have hle0 := Fz.le.trans hle0 hle452
        have hzst := Fz.le.refl Z451
        have hs497 := hs3.mono hle452
        have hs498 := cf0 hx4
        have hM499 := hMx.keep (List.Sublist.cons_cons _ (List.Sublist.cons _ (List.Sublist.slnil))); clear hMx
        refine s1 hFx 65 (.bool (!(scontainsS rsizes (u0.Data.length : Int)))) ?_; intro a500 hF501; clear hFx
        refine nl (qnI (hJ _ _ ?_)); clear hJ J
        have hM502 := hM499.nilRes
        exact ⟨ao429, cap430, .slice ao429 rsizes.length cap430, .pointer (some ⟨b6, 5, none⟩), .slice ao1 u0.Data.length cap2, .int .i64 (u0.Data.length : Int), .bool (scontainsS rsizes (u0.Data.length : Int)), .bool (!(scontainsS rsizes (u0.Data.length : Int))), .row b6 [.int .i64 u0.ID, .bool u0.Long, .bool u0.Fast, .bool u0.Remote, .int .i64 u0.Size, .slice ao1 u0.Data.length cap2] 24, .nil, Z451, hle452, hF501.reg, hM502.perm ((pk 1 rfl).trans (lpr.cons _)), kf, kf, kf, kf, kf, kf, rfl, (tn hx0), (fun _ => tn hx4), kf, (fun _ => hs498)⟩
      case hE =>
       intro S hS a504 wd505 hI; refine Go.Sy.hid ?_; intro G hG; obtain ⟨ao429, cap430, ud60, ud61, ud62, ud63, ud64, ud65, rh0, rh1, Z451, hle452, hFx, hMx, cu60, cu61, cu62, cu63, cu64, cu65, cr0_0, cr1_0, cr1_1, cr1_2, hI⟩ := hI; have cf0 := hI; clear hI; refine hG ?_; clear hG G
       obtain rfl := cu60 (hS 0 (by decide))
       obtain rfl := cu61 (hS 1 (by decide))
       obtain rfl := cu62 (hS 2 (by decide))
       obtain rfl := cu63 (hS 3 (by decide))
       obtain rfl := cu64 (hS 4 (by decide))
       obtain rfl := cu65 (hS 5 (by decide))
       obtain rfl := cr0_0
       obtain rfl := cr1_2 (hS 4 (by decide))
       have hle0 := Fz.le.trans hle0 hle452
       have hs506 := hs3.mono hle452
       have hs507 := cf0 (hS 4 (by decide))
       have hMx := hMx.keep (List.Sublist.cons_cons _ (List.Sublist.cons _ (List.Sublist.slnil)))
       refine thn ?_
       refine cd hFx (t := !(scontainsS rsizes (u0.Data.length : Int))) (by kernel_rfl) (fun hb508 => ?_) (fun hb508 => ?_)
       ·
        have hp509 := hp423.1 hb508; clear hp423
        have hF510 : Fr 66 [] [] a504 := hFx.reg; clear hFx
        refine sqH ?_; intro hQ511Q hQ511
        refine s1 hF510 2 (.int .i64 4) ?_; intro a512 hF513; clear hF510
        refine nlH (hQ511 _ _ ?_); clear hQ511 hQ511Q
        refine wp_ret ?_
        refine thr ?_
        refine rt (fn := Tryz.f17) (v := .int .i64 4) hF513 (re1 hF513 (fn := Tryz.f17) rfl (by kernel_rfl)) ?_
        exact ⟨4, rfl, hp509, hMx.below⟩
       ·
        have hp514 := hp423.2 hb508; clear hp423
        refine wp_skip ?_
        refine thn ?_
        have hF515 : Fr 66 [] [] a504 := hFx.reg; clear hFx
        refine sqH ?_; intro hQ516Q hQ516
        refine s1 hF515 2 (.int .i64 0) ?_; intro a517 hF518; clear hF515
        refine nlH (hQ516 _ _ ?_); clear hQ516 hQ516Q
        refine wp_ret ?_
        refine rt (fn := Tryz.f17) (v := .int .i64 0) hF518 (re1 hF518 (fn := Tryz.f17) rfl (by kernel_rfl)) ?_
        exact ⟨0, rfl, hp514, hMx.below⟩

end Go.Proofs.YtmbdcehmeiiaoaaGreatDoor
