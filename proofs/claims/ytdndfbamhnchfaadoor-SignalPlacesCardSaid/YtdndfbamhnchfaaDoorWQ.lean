/- The walks, made by program: each call does what its pure predicate says. -/
import Derived.Test.YtdndfbamhnchfaaDoorPQ
import Derived.Test.YtdndfbamhnchfaaDoorWP
set_option linter.unusedVariables false
set_option linter.unusedSimpArgs false
namespace Go.Proofs.YtdndfbamhnchfaaDoor
open Go.Sy Go.RowKit
theorem rplaces_fun (u0 : Signal) (hpre : (0 ≤ u0.Start ∧ u0.Start ≤ 512) ∧ 1 ≤ u0.Size ∧ u0.Size ≤ 40)  (Z : Fz) (w : World)  (hZ : Z.on w) : Calls Tryd.prog 25 #[.agg #[str u0.Name, .int .i64 u0.Start, .int .i64 u0.Size, .bool u0.Back, .bool u0.Signed, .int .i64 u0.Mul, .int .i64 u0.Div, .int .i64 u0.Add, .int .i64 u0.Key]] w fun e w' => ∃ (ao1001 : Option Addr) (cap1002 : Nat) (Z' : Fz), e = .returned (.slice ao1001 (placesS u0).length cap1002) ∧ Mem w.heap.size [] w Z [.own (tyInt .i64) 3 ao1001 cap1002 (placesS u0)] Z' w' :=
  (rplaces_walk u0  Z w  hZ (rplaces_ok u0 hpre)).mono fun _ _ ⟨r, h0, h1, h2, he, hk, hm⟩ => by subst hk; exact ⟨h0, h1, h2, he, hm⟩

theorem scontains_fun (u0 : List Int) (u1 : Int) (ao1 : Option Addr) (cap2 : Nat) (Z : Fz) (w : World) (hs3 : SlR (tyInt .i64) Z ao1 cap2 u0) (hZ : Z.on w) : Calls Tryd.prog 65 #[.slice ao1 u0.length cap2, .int .i64 u1] w fun e w' => e = .returned (.bool (scontainsS u0 u1)) ∧ Below w.heap.size w w' :=
  (scontains_walk u0 u1 ao1 cap2 Z w hs3 hZ (scontains_ok u0 u1)).mono fun _ _ ⟨r, he, hk, hb⟩ => ⟨by subst hk; exact he, hb⟩

theorem icontf_fun (u0 : List Int) (u1 : Int → Bool) (ao1 : Option Addr) (cap2 : Nat) (fid4 : Nat) (caps5 : Array Value) (Z : Fz) (w : World) (hs3 : SlR (tyInt .i64) Z ao1 cap2 u0) (hf6 : ∀ (Z1 : Fz) (w1 : World), Z.le Z1 → Z1.on w1 → ∀ (x0 : Int), Calls Tryd.prog fid4 (#[.int .i64 x0] ++ caps5) w1 fun e w2 => e = .returned (.bool (u1 x0)) ∧ Below w1.heap.size w1 w2) (hg7 : ∀ x w, Sem.run Tryd.prog (callFunc fid4 x) w = .ok (.enter fid4 x) w) (hZ : Z.on w) : Calls Tryd.prog 63 #[.slice ao1 u0.length cap2, .func (.func fid4) #[] caps5] w fun e w' => e = .returned (.bool (icontfS u0 u1)) ∧ Below w.heap.size w w' :=
  (icontf_walk u0 u1 ao1 cap2 fid4 caps5 Z w hs3 hf6 hg7 hZ (icontf_ok u0 u1)).mono fun _ _ ⟨r, he, hk, hb⟩ => ⟨by subst hk; exact he, hb⟩

set_option maxRecDepth 100000 in
set_option maxHeartbeats 0 in
theorem risname_walk (u0 : List UInt8)  (Z : Fz) (w : World)  (hZ : Z.on w) {K : Bool → Prop} (hp : risname_vc u0 K) : Calls Tryd.prog 21 #[str u0] w fun e w' => ∃ r : Bool, e = .returned (.bool r) ∧ K r ∧ Below w.heap.size w w' := by
 refine enter0 Tryd.func21 rfl rfl (by kernel_rfl) ?_; intro a0 hF0; have hM0 := Mem.start w Z hZ; have hle0 := Fz.le.refl Z
 refine sqH ?_; intro hQ1Q hQ1
 refine s1 hF0 2 (.bool false) ?_; intro a2 hF3; clear hF0
 refine nlH (hQ1 _ _ ?_); clear hQ1 hQ1Q
 refine wp_seq ?_
 refine sqH ?_; intro hQ4Q hQ4
 refine s1 hF3 3 (str u0) ?_; intro a5 hF6; clear hF3
 refine st hF6 (.bool (u0 == ([] : List UInt8))) (nog rfl _) rfl (by kernel_rfl) (strcmp_run hF6 (g := []) (op := .eql) rfl (by kernel_rfl) (by kernel_rfl) (by decide) rfl) ?_; intro a7 hF8; clear hF6
 refine s1 hF8 5 (.bool (u0 == ([] : List UInt8))) ?_; intro a9 hF10; clear hF8
 have hF11 := hF10.atom ((u0 == ([] : List UInt8)) == false) (by kernel_rfl); clear hF10
 refine gp hF11 6 0 [] (u0 == ([] : List UInt8)) (str u0) rfl rfl ?_; intro a12 hF13; clear hF11
 refine gp hF13 7 0 [] (u0 == ([] : List UInt8)) (.int .i64 (u0.length : Int)) rfl rfl ?_; intro a14 hF15; clear hF13
 refine gp hF15 8 0 [] (u0 == ([] : List UInt8)) (.bool (decide ((u0.length : Int) > 16))) rfl rfl ?_; intro a16 hF17; clear hF15
 refine st hF17 (.bool ((u0 == ([] : List UInt8)) || (decide ((u0.length : Int) > 16)))) (nog rfl _) rfl (by kernel_rfl) (pk_or hF17 (g := []) (m := 0) (b := u0 == ([] : List UInt8)) (v := decide ((u0.length : Int) > 16)) rfl (by kernel_rfl) (by kernel_rfl) (by kernel_rfl) rfl) ?_; intro a18 hF19; clear hF17
 refine s1 hF19 10 (.bool ((u0 == ([] : List UInt8)) || (decide ((u0.length : Int) > 16)))) ?_; intro a20 hF21; clear hF19
 have hF22 := hF21.atom (((u0 == ([] : List UInt8)) || (decide ((u0.length : Int) > 16))) == false) (by kernel_rfl); clear hF21
 refine gp hF22 11 1 [] ((u0 == ([] : List UInt8)) || (decide ((u0.length : Int) > 16))) (str u0) rfl rfl ?_; intro a23 hF24; clear hF22
 rcases Bool.eq_false_or_eq_true ((u0 == ([] : List UInt8)) || (decide ((u0.length : Int) > 16))) with hb25 | hb25
 · -- true
  have hp26 := hp.1 hb25; clear hp
  have hF27 := hF24.reval (d := 10) (c := []) (v := .bool ((u0 == ([] : List UInt8)) || (decide ((u0.length : Int) > 16)))) (by kernel_rfl) (.bool true) (by rw [hb25]); clear hF24
  have hF28 := hF27.setc (d := 11) (c := [1]) (v := str u0) (by kernel_rfl) (v' := undef) (by rw [hb25]; kernel_rfl); clear hF27
  refine sk hF28 (b := true) rfl rfl (by kernel_rfl) (by kernel_rfl) rfl rfl (by kernel_rfl) ?_; intro a29 hF30; clear hF28
  refine sk hF30 (b := true) rfl rfl (by kernel_rfl) (by kernel_rfl) rfl rfl (by kernel_rfl) ?_; intro a31 hF32; clear hF30
  refine sk hF32 (b := true) rfl rfl (by kernel_rfl) (by kernel_rfl) rfl rfl (by kernel_rfl) ?_; intro a33 hF34; clear hF32
  refine sku hF34 rfl rfl (by kernel_rfl) (by kernel_rfl) rfl (by kernel_rfl) ?_; intro a35 hF36; clear hF34
  refine sku hF36 rfl rfl (by kernel_rfl) (by kernel_rfl) rfl (by kernel_rfl) ?_; intro a37 hF38; clear hF36
  refine sku hF38 rfl rfl (by kernel_rfl) (by kernel_rfl) rfl (by kernel_rfl) ?_; intro a39 hF40; clear hF38
  refine sk hF40 (b := true) rfl rfl (by kernel_rfl) (by kernel_rfl) rfl rfl (by kernel_rfl) ?_; intro a41 hF42; clear hF40
  refine s1 hF42 19 (.bool true) ?_; intro a43 hF44; clear hF42
  refine nlH (hQ4 _ _ ?_); clear hQ4 hQ4Q
  refine cdT hF44 (by kernel_rfl) ?_
  have hF45 : Fr 23 [] [] a43 := hF44.region (by kernel_rfl) (by kernel_rfl); clear hF44
  refine sqH ?_; intro hQ46Q hQ46
  refine s1 hF45 2 (.bool false) ?_; intro a47 hF48; clear hF45
  refine nlH (hQ46 _ _ ?_); clear hQ46 hQ46Q
  refine wp_ret ?_
  refine thr ?_
  refine rt (fn := Tryd.f21) (v := .bool false) hF48 (re1 hF48 (fn := Tryd.f21) rfl (by kernel_rfl)) ?_
  exact ⟨false, rfl, hp26, hM0.below⟩
 · -- false
  have hp49 := hp.2 hb25; clear hp
  have hF50 := hF24.reval (d := 10) (c := []) (v := .bool ((u0 == ([] : List UInt8)) || (decide ((u0.length : Int) > 16)))) (by kernel_rfl) (.bool false) (by rw [hb25]); clear hF24
  have hF51 := hF50.setc (d := 11) (c := [1]) (v := str u0) (by kernel_rfl) (v' := str u0) (by rw [hb25]; kernel_rfl); clear hF50
  have hc52 := hp49.1; have hp53 := hp49.2; clear hp49
  obtain ⟨c54, hq55⟩ : ∃ q, u0[(0 : Int).toNat]? = some q := ⟨_, List.getElem?_eq_getElem (by omega)⟩; have hp56 := hp53 c54 hq55
  refine st hF51 (.int .u8 (c54.toNat : Int)) (by rw [wanted_of hF51 (b := false) rfl rfl (by kernel_rfl) (by kernel_rfl)]; rfl) rfl (by kernel_rfl) (stridx_run hF51 (k := .i64) rfl (by kernel_rfl) (by kernel_rfl) (by kernel_rfl) hc52.1 hq55) ?_; intro a57 hF58; clear hF51
  refine st hF58 (.bool (decide ((c54.toNat : Int) ≥ 48))) (by rw [wanted_of hF58 (b := false) rfl rfl (by kernel_rfl) (by kernel_rfl)]; rfl) rfl (by kernel_rfl) (p0 hF58 (by kernel_rfl)) ?_; intro a59 hF60; clear hF58
  refine st hF60 (.bool (decide ((c54.toNat : Int) ≥ 48))) (by rw [wanted_of hF60 (b := false) rfl rfl (by kernel_rfl) (by kernel_rfl)]; rfl) rfl (by kernel_rfl) (p0 hF60 (by kernel_rfl)) ?_; intro a61 hF62; clear hF60
  have hF63 := hF62.atom ((decide ((c54.toNat : Int) ≥ 48)) == true) (by kernel_rfl); clear hF62
  refine gp hF63 15 2 [] (decide ((c54.toNat : Int) ≥ 48)) (str u0) rfl rfl ?_; intro a64 hF65; clear hF63
  rcases Bool.eq_false_or_eq_true (decide ((c54.toNat : Int) ≥ 48)) with hb66 | hb66
  · -- true
   have hp67 := hp56.1 hb66; clear hp56
   have hF68 := hF65.reval (d := 14) (c := []) (v := .bool (decide ((c54.toNat : Int) ≥ 48))) (by kernel_rfl) (.bool true) (by rw [hb66]); clear hF65
   have hF69 := hF68.setc (d := 15) (c := [2]) (v := str u0) (by kernel_rfl) (v' := str u0) (by rw [hb66]; kernel_rfl); clear hF68
   have hc70 := hp67.1; have hp71 := hp67.2; clear hp67
   obtain ⟨c72, hq73⟩ : ∃ q, u0[(0 : Int).toNat]? = some q := ⟨_, List.getElem?_eq_getElem (by omega)⟩; have hp74 := hp71 c72 hq73
   refine st hF69 (.int .u8 (c72.toNat : Int)) (by rw [wanted_of hF69 (b := true) rfl rfl (by kernel_rfl) (by kernel_rfl)]; rfl) rfl (by kernel_rfl) (stridx_run hF69 (k := .i64) rfl (by kernel_rfl) (by kernel_rfl) (by kernel_rfl) hc70.1 hq73) ?_; intro a75 hF76; clear hF69
   refine st hF76 (.bool (decide ((c72.toNat : Int) ≤ 57))) (by rw [wanted_of hF76 (b := true) rfl rfl (by kernel_rfl) (by kernel_rfl)]; rfl) rfl (by kernel_rfl) (p0 hF76 (by kernel_rfl)) ?_; intro a77 hF78; clear hF76
   refine st hF78 (.bool (decide ((c72.toNat : Int) ≤ 57))) (by rw [wanted_of hF78 (b := false) rfl rfl (by kernel_rfl) (by kernel_rfl)]; rfl) rfl (by kernel_rfl) (p0 hF78 (by kernel_rfl)) ?_; intro a79 hF80; clear hF78
   refine s1 hF80 19 (.bool (decide ((c72.toNat : Int) ≤ 57))) ?_; intro a81 hF82; clear hF80
   refine nlH (hQ4 _ _ ?_); clear hQ4 hQ4Q
   refine cd hF82 (t := decide ((c72.toNat : Int) ≤ 57)) (by kernel_rfl) (fun hb83 => ?_) (fun hb83 => ?_)
   · -- yes
    have hp84 := hp74.1 hb83; clear hp74
    have hF85 : Fr 23 [] [] a81 := hF82.region (by kernel_rfl) (by kernel_rfl); clear hF82
    refine sqH ?_; intro hQ86Q hQ86
    refine s1 hF85 2 (.bool false) ?_; intro a87 hF88; clear hF85
    refine nlH (hQ86 _ _ ?_); clear hQ86 hQ86Q
    refine wp_ret ?_
    refine thr ?_
    refine rt (fn := Tryd.f21) (v := .bool false) hF88 (re1 hF88 (fn := Tryd.f21) rfl (by kernel_rfl)) ?_
    exact ⟨false, rfl, hp84, hM0.below⟩
   · -- no
    have hp89 := hp74.2 hb83; clear hp74
    refine wp_skip ?_
    refine thn ?_
    have hF90 : Fr 23 [] [⟨0, [], str u0⟩] a81 := hF82.region (by kernel_rfl) (by kernel_rfl); clear hF82
    refine sqH ?_; intro hQ91Q hQ91
    refine s1 hF90 20 (str u0) ?_; intro a92 hF93; clear hF90
    have hc94 := hp89.1; have hp95 := hp89.2; clear hp89
    refine fcl hF93 hM0 (str (trimS u0 ([97, 98, 99, 100, 101, 102, 103, 104, 105, 106, 107, 108, 109, 110, 111, 112, 113, 114, 115, 116, 117, 118, 119, 120, 121, 122, 65, 66, 67, 68, 69, 70, 71, 72, 73, 74, 75, 76, 77, 78, 79, 80, 81, 82, 83, 84, 85, 86, 87, 88, 89, 90, 48, 49, 50, 51, 52, 53, 54, 55, 56, 57] : List UInt8))) 60 #[str u0, str ([97, 98, 99, 100, 101, 102, 103, 104, 105, 106, 107, 108, 109, 110, 111, 112, 113, 114, 115, 116, 117, 118, 119, 120, 121, 122, 65, 66, 67, 68, 69, 70, 71, 72, 73, 74, 75, 76, 77, 78, 79, 80, 81, 82, 83, 84, 85, 86, 87, 88, 89, 90, 48, 49, 50, 51, 52, 53, 54, 55, 56, 57] : List UInt8)] (nog rfl _) rfl (by kernel_rfl) (fun _ => by kernel_rfl) (trim_fun u0 ([97, 98, 99, 100, 101, 102, 103, 104, 105, 106, 107, 108, 109, 110, 111, 112, 113, 114, 115, 116, 117, 118, 119, 120, 121, 122, 65, 66, 67, 68, 69, 70, 71, 72, 73, 74, 75, 76, 77, 78, 79, 80, 81, 82, 83, 84, 85, 86, 87, 88, 89, 90, 48, 49, 50, 51, 52, 53, 54, 55, 56, 57] : List UInt8) hc94 _ _ hM0.fz) ?_; intro a96 wd98 hF97 hM99; clear hF93 hM0
    refine st hF97 (.bool ((trimS u0 ([97, 98, 99, 100, 101, 102, 103, 104, 105, 106, 107, 108, 109, 110, 111, 112, 113, 114, 115, 116, 117, 118, 119, 120, 121, 122, 65, 66, 67, 68, 69, 70, 71, 72, 73, 74, 75, 76, 77, 78, 79, 80, 81, 82, 83, 84, 85, 86, 87, 88, 89, 90, 48, 49, 50, 51, 52, 53, 54, 55, 56, 57] : List UInt8)) == ([] : List UInt8))) (nog rfl _) rfl (by kernel_rfl) (strcmp_run hF97 (g := []) (op := .eql) rfl (by kernel_rfl) (by kernel_rfl) (by decide) rfl) ?_; intro a100 hF101; clear hF97
    refine s1 hF101 2 (.bool ((trimS u0 ([97, 98, 99, 100, 101, 102, 103, 104, 105, 106, 107, 108, 109, 110, 111, 112, 113, 114, 115, 116, 117, 118, 119, 120, 121, 122, 65, 66, 67, 68, 69, 70, 71, 72, 73, 74, 75, 76, 77, 78, 79, 80, 81, 82, 83, 84, 85, 86, 87, 88, 89, 90, 48, 49, 50, 51, 52, 53, 54, 55, 56, 57] : List UInt8)) == ([] : List UInt8))) ?_; intro a102 hF103; clear hF101
    refine nlH (hQ91 _ _ ?_); clear hQ91 hQ91Q
    refine wp_ret ?_
    refine rt (fn := Tryd.f21) (v := .bool ((trimS u0 ([97, 98, 99, 100, 101, 102, 103, 104, 105, 106, 107, 108, 109, 110, 111, 112, 113, 114, 115, 116, 117, 118, 119, 120, 121, 122, 65, 66, 67, 68, 69, 70, 71, 72, 73, 74, 75, 76, 77, 78, 79, 80, 81, 82, 83, 84, 85, 86, 87, 88, 89, 90, 48, 49, 50, 51, 52, 53, 54, 55, 56, 57] : List UInt8)) == ([] : List UInt8))) hF103 (re1 hF103 (fn := Tryd.f21) rfl (by kernel_rfl)) ?_
    exact ⟨(trimS u0 ([97, 98, 99, 100, 101, 102, 103, 104, 105, 106, 107, 108, 109, 110, 111, 112, 113, 114, 115, 116, 117, 118, 119, 120, 121, 122, 65, 66, 67, 68, 69, 70, 71, 72, 73, 74, 75, 76, 77, 78, 79, 80, 81, 82, 83, 84, 85, 86, 87, 88, 89, 90, 48, 49, 50, 51, 52, 53, 54, 55, 56, 57] : List UInt8)) == ([] : List UInt8), rfl, hp95, hM99.below⟩
  · -- false
   have hp104 := hp56.2 hb66; clear hp56
   have hF105 := hF65.reval (d := 14) (c := []) (v := .bool (decide ((c54.toNat : Int) ≥ 48))) (by kernel_rfl) (.bool false) (by rw [hb66]); clear hF65
   have hF106 := hF105.setc (d := 15) (c := [2]) (v := str u0) (by kernel_rfl) (v' := undef) (by rw [hb66]; kernel_rfl); clear hF105
   refine sk hF106 (b := false) rfl rfl (by kernel_rfl) (by kernel_rfl) rfl rfl (by kernel_rfl) ?_; intro a107 hF108; clear hF106
   refine sk hF108 (b := false) rfl rfl (by kernel_rfl) (by kernel_rfl) rfl rfl (by kernel_rfl) ?_; intro a109 hF110; clear hF108
   refine st hF110 (.bool false) (by rw [wanted_of hF110 (b := false) rfl rfl (by kernel_rfl) (by kernel_rfl)]; rfl) rfl (by kernel_rfl) (p0 hF110 (by kernel_rfl)) ?_; intro a111 hF112; clear hF110
   refine s1 hF112 19 (.bool false) ?_; intro a113 hF114; clear hF112
   refine nlH (hQ4 _ _ ?_); clear hQ4 hQ4Q
   refine cdF hF114 (by kernel_rfl) ?_
   refine wp_skip ?_
   refine thn ?_
   have hF115 : Fr 23 [] [⟨0, [], str u0⟩] a113 := hF114.region (by kernel_rfl) (by kernel_rfl); clear hF114
   refine sqH ?_; intro hQ116Q hQ116
   refine s1 hF115 20 (str u0) ?_; intro a117 hF118; clear hF115
   have hc119 := hp104.1; have hp120 := hp104.2; clear hp104
   refine fcl hF118 hM0 (str (trimS u0 ([97, 98, 99, 100, 101, 102, 103, 104, 105, 106, 107, 108, 109, 110, 111, 112, 113, 114, 115, 116, 117, 118, 119, 120, 121, 122, 65, 66, 67, 68, 69, 70, 71, 72, 73, 74, 75, 76, 77, 78, 79, 80, 81, 82, 83, 84, 85, 86, 87, 88, 89, 90, 48, 49, 50, 51, 52, 53, 54, 55, 56, 57] : List UInt8))) 60 #[str u0, str ([97, 98, 99, 100, 101, 102, 103, 104, 105, 106, 107, 108, 109, 110, 111, 112, 113, 114, 115, 116, 117, 118, 119, 120, 121, 122, 65, 66, 67, 68, 69, 70, 71, 72, 73, 74, 75, 76, 77, 78, 79, 80, 81, 82, 83, 84, 85, 86, 87, 88, 89, 90, 48, 49, 50, 51, 52, 53, 54, 55, 56, 57] : List UInt8)] (nog rfl _) rfl (by kernel_rfl) (fun _ => by kernel_rfl) (trim_fun u0 ([97, 98, 99, 100, 101, 102, 103, 104, 105, 106, 107, 108, 109, 110, 111, 112, 113, 114, 115, 116, 117, 118, 119, 120, 121, 122, 65, 66, 67, 68, 69, 70, 71, 72, 73, 74, 75, 76, 77, 78, 79, 80, 81, 82, 83, 84, 85, 86, 87, 88, 89, 90, 48, 49, 50, 51, 52, 53, 54, 55, 56, 57] : List UInt8) hc119 _ _ hM0.fz) ?_; intro a121 wd123 hF122 hM124; clear hF118 hM0
   refine st hF122 (.bool ((trimS u0 ([97, 98, 99, 100, 101, 102, 103, 104, 105, 106, 107, 108, 109, 110, 111, 112, 113, 114, 115, 116, 117, 118, 119, 120, 121, 122, 65, 66, 67, 68, 69, 70, 71, 72, 73, 74, 75, 76, 77, 78, 79, 80, 81, 82, 83, 84, 85, 86, 87, 88, 89, 90, 48, 49, 50, 51, 52, 53, 54, 55, 56, 57] : List UInt8)) == ([] : List UInt8))) (nog rfl _) rfl (by kernel_rfl) (strcmp_run hF122 (g := []) (op := .eql) rfl (by kernel_rfl) (by kernel_rfl) (by decide) rfl) ?_; intro a125 hF126; clear hF122
   refine s1 hF126 2 (.bool ((trimS u0 ([97, 98, 99, 100, 101, 102, 103, 104, 105, 106, 107, 108, 109, 110, 111, 112, 113, 114, 115, 116, 117, 118, 119, 120, 121, 122, 65, 66, 67, 68, 69, 70, 71, 72, 73, 74, 75, 76, 77, 78, 79, 80, 81, 82, 83, 84, 85, 86, 87, 88, 89, 90, 48, 49, 50, 51, 52, 53, 54, 55, 56, 57] : List UInt8)) == ([] : List UInt8))) ?_; intro a127 hF128; clear hF126
   refine nlH (hQ116 _ _ ?_); clear hQ116 hQ116Q
   refine wp_ret ?_
   refine rt (fn := Tryd.f21) (v := .bool ((trimS u0 ([97, 98, 99, 100, 101, 102, 103, 104, 105, 106, 107, 108, 109, 110, 111, 112, 113, 114, 115, 116, 117, 118, 119, 120, 121, 122, 65, 66, 67, 68, 69, 70, 71, 72, 73, 74, 75, 76, 77, 78, 79, 80, 81, 82, 83, 84, 85, 86, 87, 88, 89, 90, 48, 49, 50, 51, 52, 53, 54, 55, 56, 57] : List UInt8)) == ([] : List UInt8))) hF128 (re1 hF128 (fn := Tryd.f21) rfl (by kernel_rfl)) ?_
   exact ⟨(trimS u0 ([97, 98, 99, 100, 101, 102, 103, 104, 105, 106, 107, 108, 109, 110, 111, 112, 113, 114, 115, 116, 117, 118, 119, 120, 121, 122, 65, 66, 67, 68, 69, 70, 71, 72, 73, 74, 75, 76, 77, 78, 79, 80, 81, 82, 83, 84, 85, 86, 87, 88, 89, 90, 48, 49, 50, 51, 52, 53, 54, 55, 56, 57] : List UInt8)) == ([] : List UInt8), rfl, hp120, hM124.below⟩

set_option maxRecDepth 100000 in
set_option maxHeartbeats 0 in
theorem rov1_walk (u0 : Int) (u1 : List Int) (cb4 co5 : Nat) (ao1 : Option Addr) (cap2 : Nat) (Z : Fz) (w : World) (hP6 : PtR Z cb4 co5 [.slice ao1 u1.length cap2]) (hs3 : SlR (tyInt .i64) Z ao1 cap2 u1) (hZ : Z.on w) {K : Bool → Prop} (hp : rov1_vc u0 u1 K) : Calls Tryd.prog 64 #[.int .i64 u0, .pointer (some ⟨cb4, co5, none⟩)] w fun e w' => ∃ r : Bool, e = .returned (.bool r) ∧ K r ∧ Below w.heap.size w w' := by
 refine enter0 Tryd.func64 rfl rfl (by kernel_rfl) ?_; intro a0 hF0; have hM0 := Mem.start w Z hZ; have hle0 := Fz.le.refl Z
 refine sqH ?_; intro hQ7Q hQ7
 refine s1 hF0 3 (.bool false) ?_; intro a8 hF9; clear hF0
 refine nlH (hQ7 _ _ ?_); clear hQ7 hQ7Q
 refine sqH ?_; intro hQ10Q hQ10
 refine z1 hF9 hM0 4 hP6 0 (.slice ao1 u1.length cap2) rfl ?_; intro a11 hF12; clear hF9
 refine s1 hF12 5 (.int .i64 u0) ?_; intro a13 hF14; clear hF12
 refine fcl hF14 hM0 (.bool (scontainsS u1 u0)) 65 #[.slice ao1 u1.length cap2, .int .i64 u0] (nog rfl _) rfl (by kernel_rfl) (fun _ => by kernel_rfl) (scontains_fun u1 u0 ao1 cap2 _ _ hs3 hM0.fz) ?_; intro a15 wd17 hF16 hM18; clear hF14 hM0
 refine s1 hF16 3 (.bool (scontainsS u1 u0)) ?_; intro a19 hF20; clear hF16
 refine nlH (hQ10 _ _ ?_); clear hQ10 hQ10Q
 refine wp_ret ?_
 refine rt (fn := Tryd.f64) (v := .bool (scontainsS u1 u0)) hF20 (re1 hF20 (fn := Tryd.f64) rfl (by kernel_rfl)) ?_
 exact ⟨(scontainsS u1 u0), rfl, hp, hM18.below⟩
theorem rov1_fun (u0 : Int) (u1 : List Int) (cb4 co5 : Nat) (ao1 : Option Addr) (cap2 : Nat) (Z : Fz) (w : World) (hP6 : PtR Z cb4 co5 [.slice ao1 u1.length cap2]) (hs3 : SlR (tyInt .i64) Z ao1 cap2 u1) (hZ : Z.on w) : Calls Tryd.prog 64 #[.int .i64 u0, .pointer (some ⟨cb4, co5, none⟩)] w fun e w' => e = .returned (.bool (rov1 u0 u1)) ∧ Below w.heap.size w w' :=
  (rov1_walk u0 u1 cb4 co5 ao1 cap2 Z w hP6 hs3 hZ (rov1_ok u0 u1)).mono fun _ _ ⟨r, he, hk, hb⟩ => ⟨by subst hk; exact he, hb⟩

end Go.Proofs.YtdndfbamhnchfaaDoor
