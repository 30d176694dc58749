/- The walks, made by program: each call does what its pure predicate says. -/
import Derived.Test.YtfafpnacflcgmaaDoorPRa
import Derived.Test.YtfafpnacflcgmaaDoorWBm
set_option linter.unusedVariables false
set_option linter.unusedSimpArgs false
namespace Go.Proofs.YtfafpnacflcgmaaDoor
open Go.Sy Go.RowKit
set_option maxRecDepth 100000 in
set_option maxHeartbeats 0 in
theorem rofb_walk (u0 : List Int) (ao1 : Option Addr) (cap2 : Nat) (Z : Fz) (w : World) (hs3 : SlR (tyInt .u8) Z ao1 cap2 u0) (hg5 : SlR (tyInt .u8) Z (some ⟨5, 0, none⟩) 64 deBruijn64) (hZ : Z.on w) {K : (List UInt8) → Prop} (hp : rofb_vc u0 K) : Calls Tryd.prog 26 #[.slice ao1 u0.length cap2] w fun e w' => ∃ r : (List UInt8), e = .returned (str r) ∧ K r ∧ Below w.heap.size w w' := by
 refine enter0 Tryd.func26 rfl rfl (by kernel_rfl) ?_; intro a0 hF0; have hM0 := Mem.start w Z hZ; have hle0 := Fz.le.refl Z
 have hp4 := hp (hs3.small); clear hp
 refine sqH ?_; intro hQ5Q hQ5
 refine s1 hF0 2 (str []) ?_; intro a6 hF7; clear hF0
 refine nlH (hQ5 _ _ ?_); clear hQ5 hQ5Q
 refine sqH ?_; intro hQ8Q hQ8
 refine s1 hF7 3 (str []) ?_; intro a9 hF10; clear hF7
 refine nlH (hQ8 _ _ ?_); clear hQ8 hQ8Q
 refine wp_seq ?_
 refine sqH ?_; intro hQ11Q hQ11
 refine s1 hF10 7 (.slice ao1 u0.length cap2) ?_; intro a12 hF13; clear hF10
 refine s1 hF13 8 (.int .i64 (u0.length : Int)) ?_; intro a14 hF15; clear hF13
 refine s1 hF15 9 (.int .i64 0) ?_; intro a16 hF17; clear hF15
 refine nlH (hQ11 _ _ ?_); clear hQ11 hQ11Q
 refine wp_block ?_
 have hF18 : Fr 26 [] [⟨3, [], str []⟩, ⟨7, [], .slice ao1 u0.length cap2⟩, ⟨8, [], .int .i64 (u0.length : Int)⟩, ⟨9, [], .int .i64 0⟩] a16 := hF17.region (by kernel_rfl) (by kernel_rfl); clear hF17
 have hF20 : Fr 26 [] [⟨3, [], str []⟩, ⟨7, [], .slice ao1 u0.length cap2⟩, ⟨8, [], .int .i64 (u0.length : Int)⟩, ⟨9, [], .int .i64 0⟩] a16 := hF18.region (by kernel_rfl) (by kernel_rfl); clear hF18
 obtain ⟨inv19, mu19, hI23, hr22⟩ := hp4
 refine lp (ι := (List UInt8) × Int) (fun (s : (List UInt8) × Int) => [⟨3, [], str s.1⟩, ⟨7, [], .slice ao1 u0.length cap2⟩, ⟨8, [], .int .i64 (u0.length : Int)⟩, ⟨9, [], .int .i64 s.2⟩]) (fun (s : (List UInt8) × Int) => []) (fun (s : (List UInt8) × Int) => Z) (fun (s : (List UInt8) × Int) => inv19 s.1 s.2) (fun (s : (List UInt8) × Int) => mu19 s.1 s.2) ⟨[], 0⟩ hI23 (by exact hF20.region (by kernel_rfl) (by kernel_rfl)) (by exact hM0) ?_
 rintro ⟨x3, x9⟩ hI21 a25 wd26 hF27 hM28
 have hF29 : Fr 26 [] [⟨3, [], str x3⟩, ⟨7, [], .slice ao1 u0.length cap2⟩, ⟨8, [], .int .i64 (u0.length : Int)⟩, ⟨9, [], .int .i64 x9⟩] a25 := hF27; clear hF27 hF20
 have hM30 : Mem w.heap.size [] w Z [] Z wd26 := hM28; clear hM28 hM0
 have hp31 := hr22 x3 x9 hI21
 refine sqH ?_; intro hQ32Q hQ32
 refine s1 hF29 10 (.bool (decide (x9 < (u0.length : Int)))) ?_; intro a33 hF34; clear hF29
 refine nlH (hQ32 _ _ ?_); clear hQ32 hQ32Q
 refine wp_seq ?_
 refine cd hF34 (t := decide (x9 < (u0.length : Int))) (by kernel_rfl) (fun hb35 => ?_) (fun hb35 => ?_)
 · -- yes
  have hp36 := hp31.1 hb35; clear hp31
  refine wp_skip ?_
  refine thn ?_
  refine wp_seq ?_
  refine wp_block ?_
  refine sqH ?_; intro hQ37Q hQ37
  have hc38 := hp36.1; have hp39 := hp36.2; clear hp36
  refine ix hF34 (T := (tyInt .u8)) (xs := u0) hs3 x9 hc38 (k := .i64) (e := 5) (bytes := 1) (nog rfl _) rfl (by kernel_rfl) rfl (by kernel_rfl) (by kernel_rfl) (by kernel_rfl) ?_; intro b40 off41 cs42 q43 a47 hq44 hP45 hT46 hF48; clear hF34
  have hp49 := hp39 q43 hq44; clear hp39
  obtain rfl : cs42 = ([.int .u8 q43] : List Value) := hT46
  refine z1 hF48 hM30 12 hP45 0 (.int .u8 q43) rfl ?_; intro a50 hF51; clear hF48
  refine s1 hF51 5 (.int .u8 q43) ?_; intro a52 hF53; clear hF51
  refine nlH (hQ37 _ _ ?_); clear hQ37 hQ37Q
  refine sqH ?_; intro hQ54Q hQ54
  refine s1 hF53 13 (.int .u8 q43) ?_; intro a55 hF56; clear hF53
  refine s1 hF56 14 (.int .i64 (w64 q43)) ?_; intro a57 hF58; clear hF56
  refine cl hF58 46 #[.int .i64 (w64 q43), .int .i64 2] (nog rfl _) rfl (by kernel_rfl) (by kernel_rfl) ?_
  refine (fint1_walk (w64 q43) _ _ hg5 hM30.fz hp49).mono ?_; rintro _ wd60 ⟨r59, rfl, hp64, hb⟩; refine ⟨_, rfl, ?_⟩; intro a61 hF62; have hM63 := hM30.call hb; clear hb hM30 hF58
  refine s1 hF62 6 (str r59) ?_; intro a65 hF66; clear hF62
  refine nlH (hQ54 _ _ ?_); clear hQ54 hQ54Q
  refine rgH ?_; intro hQ67Q hQ67
  refine s1 hF66 16 (str x3) ?_; intro a68 hF69; clear hF66
  refine s1 hF69 17 (str r59) ?_; intro a70 hF71; clear hF69
  refine s1 hF71 18 (.int .i64 (r59.length : Int)) ?_; intro a72 hF73; clear hF71
  refine s1 hF73 19 (.int .i64 (w64 (8 - (r59.length : Int)))) ?_; intro a74 hF75; clear hF73
  have hc76 := hp64.1; have hp77 := hp64.2; clear hp64
  refine fcl hF75 hM63 (str (srepS ([48] : List UInt8) (w64 (8 - (r59.length : Int))))) 47 #[str ([48] : List UInt8), .int .i64 (w64 (8 - (r59.length : Int)))] (nog rfl _) rfl (by kernel_rfl) (fun _ => by kernel_rfl) (srep_fun ([48] : List UInt8) (w64 (8 - (r59.length : Int))) hc76 _ _ hM63.fz) ?_; intro a78 wd80 hF79 hM81; clear hF75 hM63
  refine s1 hF79 21 (str r59) ?_; intro a82 hF83; clear hF79
  have hc84 := hp77.1; have hp85 := hp77.2; clear hp77
  refine st hF83 (str ((srepS ([48] : List UInt8) (w64 (8 - (r59.length : Int)))) ++ r59)) (nog rfl _) rfl (by kernel_rfl) (stradd_run hF83 (g := []) rfl (by kernel_rfl) (by kernel_rfl) hc84 rfl) ?_; intro a86 hF87; clear hF83
  have hc88 := hp85.1; have hp89 := hp85.2; clear hp85
  refine st hF87 (str (x3 ++ ((srepS ([48] : List UInt8) (w64 (8 - (r59.length : Int)))) ++ r59))) (nog rfl _) rfl (by kernel_rfl) (stradd_run hF87 (g := []) rfl (by kernel_rfl) (by kernel_rfl) hc88 rfl) ?_; intro a90 hF91; clear hF87
  refine s1 hF91 3 (str (x3 ++ ((srepS ([48] : List UInt8) (w64 (8 - (r59.length : Int)))) ++ r59))) ?_; intro a92 hF93; clear hF91
  refine nlH (hQ67 _ _ ?_); clear hQ67 hQ67Q
  refine ibn ?_
  refine thn ?_
  have hF94 : Fr 26 [] [⟨3, [], str (x3 ++ ((srepS ([48] : List UInt8) (w64 (8 - (r59.length : Int)))) ++ r59))⟩, ⟨7, [], .slice ao1 u0.length cap2⟩, ⟨8, [], .int .i64 (u0.length : Int)⟩, ⟨9, [], .int .i64 x9⟩] a92 := hF93.region (by kernel_rfl) (by kernel_rfl); clear hF93
  refine rgH ?_; intro hQ95Q hQ95
  refine s1 hF94 24 (.int .i64 (w64 (x9 + 1))) ?_; intro a96 hF97; clear hF94
  refine s1 hF97 9 (.int .i64 (w64 (x9 + 1))) ?_; intro a98 hF99; clear hF97
  refine nlH (hQ95 _ _ ?_); clear hQ95 hQ95Q
  refine rd ?_
  exact ⟨⟨x3 ++ ((srepS ([48] : List UInt8) (w64 (8 - (r59.length : Int)))) ++ r59), w64 (x9 + 1)⟩, hp89.1, hp89.2, (hF99.region (by kernel_rfl) (by kernel_rfl)).anyβ _ (by kernel_rfl), hM81.keep (List.Sublist.slnil)⟩
 · -- no
  have hp100 := hp31.2 hb35; clear hp31
  refine wp_exit ?_
  refine thx ?_
  refine thx ?_
  refine ibx ?_
  refine thn ?_
  refine sqH ?_; intro hQ101Q hQ101
  refine s1 hF34 25 (str x3) ?_; intro a102 hF103; clear hF34
  refine s1 hF103 2 (str x3) ?_; intro a104 hF105; clear hF103
  refine nlH (hQ101 _ _ ?_); clear hQ101 hQ101Q
  refine wp_ret ?_
  refine rt (fn := Tryd.f26) (v := str x3) hF105 (re1 hF105 (fn := Tryd.f26) rfl (by kernel_rfl)) ?_
  exact ⟨x3, rfl, hp100, hM30.below⟩

end Go.Proofs.YtfafpnacflcgmaaDoor
