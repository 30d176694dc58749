/- The walks, made by program: each call does what its pure predicate says. -/
import Derived.Test.YtdndfbamhnchfaaDoorPC
import Derived.Test.YtdndfbamhnchfaaDoorWB
set_option linter.unusedVariables false
set_option linter.unusedSimpArgs false
namespace Go.Proofs.YtdndfbamhnchfaaDoor
open Go.Sy Go.RowKit
theorem scheck_fun (u0 : Signal) (u1 : Int)  (Z : Fz) (w : World)  (hZ : Z.on w) : Calls Tryd.prog 19 #[.agg #[str u0.Name, .int .i64 u0.Start, .int .i64 u0.Size, .bool u0.Back, .bool u0.Signed, .int .i64 u0.Mul, .int .i64 u0.Div, .int .i64 u0.Add, .int .i64 u0.Key], .int .i64 u1] w fun e w' => e = .returned (.int .i64 (checkS u0 u1)) ∧ Below w.heap.size w w' :=
  (scheck_walk u0 u1  Z w  hZ (scheck_ok u0 u1)).mono fun _ _ ⟨r, he, hk, hb⟩ => ⟨by subst hk; exact he, hb⟩

theorem sget_fun (u0 : Signal) (u1 : List Int) (hpre : inD u0 u1) (ao1 : Option Addr) (cap2 : Nat) (Z : Fz) (w : World) (hs3 : SlR (tyInt .u8) Z ao1 cap2 u1) (hZ : Z.on w) : Calls Tryd.prog 35 #[.agg #[str u0.Name, .int .i64 u0.Start, .int .i64 u0.Size, .bool u0.Back, .bool u0.Signed, .int .i64 u0.Mul, .int .i64 u0.Div, .int .i64 u0.Add, .int .i64 u0.Key], .slice ao1 u1.length cap2] w fun e w' => e = .returned (.int .i64 (getS u0 u1)) ∧ Below w.heap.size w w' :=
  (sget_walk u0 u1 ao1 cap2 Z w hs3 hZ (sget_ok u0 u1 hpre)).mono fun _ _ ⟨r, he, hk, hb⟩ => ⟨by subst hk; exact he, hb⟩

theorem sputd_fun (u0 : Signal) (u1 : List Int) (u2 : Int) (hpre : inD u0 u1) (ao1 : Option Addr) (cap2 : Nat) (B : Nat) (w0 : World) (Z0 : Fz) (Rr : List Res) (Z : Fz) (w : World) (hM0 : Mem B [] w0 Z0 ((.own (tyInt .u8) 5 ao1 cap2 u1) :: Rr) Z w) (hZ : Z.on w) : Calls Tryd.prog 47 #[.agg #[str u0.Name, .int .i64 u0.Start, .int .i64 u0.Size, .bool u0.Back, .bool u0.Signed, .int .i64 u0.Mul, .int .i64 u0.Div, .int .i64 u0.Add, .int .i64 u0.Key], .slice ao1 u1.length cap2, .int .i64 u2] w fun e w' => ∃ (Z' : Fz), e = .returned (.tuple #[]) ∧ Fz.le Z Z' ∧ ((putS u0 u1 u2).length = u1.length) ∧ Mem B [] w0 Z0 ((.own (tyInt .u8) 5 ao1 cap2 (putS u0 u1 u2)) :: Rr) Z' w' :=
  (sputd_walk u0 u1 u2 ao1 cap2 B w0 Z0 Rr Z w hM0 hZ (sputd_ok u0 u1 u2 hpre)).mono fun _ _ ⟨r, h0, he, hk, f0, f1, hm⟩ => by subst hk; exact ⟨h0, he, f0, f1, hm⟩

set_option maxRecDepth 100000 in
set_option maxHeartbeats 0 in
theorem sraw_walk (u0 : Signal) (u1 : Int) (u2 : Int)  (Z : Fz) (w : World)  (hZ : Z.on w) {K : (Int × Int) → Prop} (hp : sraw_vc u0 u1 u2 K) : Calls Tryd.prog 13 #[.agg #[str u0.Name, .int .i64 u0.Start, .int .i64 u0.Size, .bool u0.Back, .bool u0.Signed, .int .i64 u0.Mul, .int .i64 u0.Div, .int .i64 u0.Add, .int .i64 u0.Key], .int .i64 u1, .int .i64 u2] w fun e w' => ∃ r : Int × Int, e = .returned (.tuple #[.int .i64 r.1, .int .i64 r.2]) ∧ K r ∧ Below w.heap.size w w' := by
 refine enter0 Tryd.func13 rfl rfl (by kernel_rfl) ?_; intro a0 hF0; have hM0 := Mem.start w Z hZ; have hle0 := Fz.le.refl Z
 refine sqH ?_; intro hQ1Q hQ1
 refine sn hF0 hM0 (fun b => .pointer (some ⟨b, 0, none⟩)) [str u0.Name, .int .i64 u0.Start, .int .i64 u0.Size, .bool u0.Back, .bool u0.Signed, .int .i64 u0.Mul, .int .i64 u0.Div, .int .i64 u0.Add, .int .i64 u0.Key] 23 (nog rfl _) rfl (by kernel_rfl) (by kernel_rfl) ?_; intro b2 a3 wd5 hF4 hM6; clear hF0 hM0
 refine s1 hF4 6 (.int .i64 0) ?_; intro a7 hF8; clear hF4
 refine s1 hF8 7 (.int .i64 0) ?_; intro a9 hF10; clear hF8
 refine nlH (hQ1 _ _ ?_); clear hQ1 hQ1Q
 refine wp_seq ?_
 refine sqH ?_; intro hQ11Q hQ11
 refine l2 hF10 hM6 17 0 0 9 [str u0.Name, .int .i64 u0.Start, .int .i64 u0.Size, .bool u0.Back, .bool u0.Signed, .int .i64 u0.Mul, .int .i64 u0.Div, .int .i64 u0.Add, .int .i64 u0.Key] rfl rfl ?_; intro a12 hF13; clear hF10
 refine fcl hF13 hM6 (.int .i64 (checkS u0 64)) 19 #[.agg #[str u0.Name, .int .i64 u0.Start, .int .i64 u0.Size, .bool u0.Back, .bool u0.Signed, .int .i64 u0.Mul, .int .i64 u0.Div, .int .i64 u0.Add, .int .i64 u0.Key], .int .i64 64] (nog rfl _) rfl (by kernel_rfl) (fun _ => by kernel_rfl) (scheck_fun u0 64 _ _ hM6.fz) ?_; intro a14 wd16 hF15 hM17; clear hF13 hM6
 refine s1 hF15 8 (.int .i64 (checkS u0 64)) ?_; intro a18 hF19; clear hF15
 refine nlH (hQ11 _ _ ?_); clear hQ11 hQ11Q
 refine sqH ?_; intro hQ20Q hQ20
 refine s1 hF19 19 (.int .i64 (checkS u0 64)) ?_; intro a21 hF22; clear hF19
 refine s1 hF22 20 (.bool ((checkS u0 64) != 0)) ?_; intro a23 hF24; clear hF22
 refine nlH (hQ20 _ _ ?_); clear hQ20 hQ20Q
 refine cd hF24 (t := (checkS u0 64) != 0) (by kernel_rfl) (fun hb25 => ?_) (fun hb25 => ?_)
 ·
  have hp26 := hp.1 hb25; clear hp
  refine sqH ?_; intro hQ27Q hQ27
  refine s1 hF24 21 (.int .i64 (checkS u0 64)) ?_; intro a28 hF29; clear hF24
  refine s1 hF29 6 (.int .i64 0) ?_; intro a30 hF31; clear hF29
  refine s1 hF31 7 (.int .i64 (checkS u0 64)) ?_; intro a32 hF33; clear hF31
  refine nlH (hQ27 _ _ ?_); clear hQ27 hQ27Q
  refine wp_ret ?_
  refine thr ?_
  refine rt (fn := Tryd.f13) (v := .tuple #[.int .i64 0, .int .i64 (checkS u0 64)]) hF33 (re2 hF33 (fn := Tryd.f13) rfl (by kernel_rfl) (by kernel_rfl)) ?_
  exact ⟨(0, (checkS u0 64)), rfl, hp26, hM17.below⟩
 ·
  have hp34 := hp.2 hb25; clear hp
  refine wp_skip ?_
  refine thn ?_
  refine wp_seq ?_
  refine sqH ?_; intro hQ35Q hQ35
  refine s1 hF24 22 (.int .i64 u2) ?_; intro a36 hF37; clear hF24
  refine s1 hF37 23 (.bool (decide (u2 < 1))) ?_; intro a38 hF39; clear hF37
  refine s1 hF39 24 (.bool (decide (u2 < 1))) ?_; intro a40 hF41; clear hF39
  have hF42 := hF41.atom ((decide (u2 < 1)) == false) (by kernel_rfl); clear hF41
  refine gp hF42 25 0 [] (decide (u2 < 1)) (.int .i64 u2) rfl rfl ?_; intro a43 hF44; clear hF42
  refine gp hF44 26 0 [] (decide (u2 < 1)) (.bool (decide (u2 > 1000000))) rfl rfl ?_; intro a45 hF46; clear hF44
  refine st hF46 (.bool ((decide (u2 < 1)) || (decide (u2 > 1000000)))) (nog rfl _) rfl (by kernel_rfl) (pk_or hF46 (g := []) (m := 0) (b := decide (u2 < 1)) (v := decide (u2 > 1000000)) rfl (by kernel_rfl) (by kernel_rfl) (by kernel_rfl) rfl) ?_; intro a47 hF48; clear hF46
  refine s1 hF48 28 (.bool ((decide (u2 < 1)) || (decide (u2 > 1000000)))) ?_; intro a49 hF50; clear hF48
  have hF51 := hF50.atom (((decide (u2 < 1)) || (decide (u2 > 1000000))) == false) (by kernel_rfl); clear hF50
  refine gp hF51 29 1 [] ((decide (u2 < 1)) || (decide (u2 > 1000000))) (.int .i64 u1) rfl rfl ?_; intro a52 hF53; clear hF51
  refine gp hF53 30 1 [] ((decide (u2 < 1)) || (decide (u2 > 1000000))) (.bool (decide (u1 > 1099511627776))) rfl rfl ?_; intro a54 hF55; clear hF53
  refine st hF55 (.bool (((decide (u2 < 1)) || (decide (u2 > 1000000))) || (decide (u1 > 1099511627776)))) (nog rfl _) rfl (by kernel_rfl) (pk_or hF55 (g := []) (m := 1) (b := (decide (u2 < 1)) || (decide (u2 > 1000000))) (v := decide (u1 > 1099511627776)) rfl (by kernel_rfl) (by kernel_rfl) (by kernel_rfl) rfl) ?_; intro a56 hF57; clear hF55
  refine s1 hF57 32 (.bool (((decide (u2 < 1)) || (decide (u2 > 1000000))) || (decide (u1 > 1099511627776)))) ?_; intro a58 hF59; clear hF57
  have hF60 := hF59.atom ((((decide (u2 < 1)) || (decide (u2 > 1000000))) || (decide (u1 > 1099511627776))) == false) (by kernel_rfl); clear hF59
  refine gp hF60 33 2 [] (((decide (u2 < 1)) || (decide (u2 > 1000000))) || (decide (u1 > 1099511627776))) (.int .i64 u1) rfl rfl ?_; intro a61 hF62; clear hF60
  refine gp hF62 34 2 [] (((decide (u2 < 1)) || (decide (u2 > 1000000))) || (decide (u1 > 1099511627776))) (.bool (decide (u1 < (-1099511627776)))) rfl rfl ?_; intro a63 hF64; clear hF62
  refine st hF64 (.bool ((((decide (u2 < 1)) || (decide (u2 > 1000000))) || (decide (u1 > 1099511627776))) || (decide (u1 < (-1099511627776))))) (nog rfl _) rfl (by kernel_rfl) (pk_or hF64 (g := []) (m := 2) (b := ((decide (u2 < 1)) || (decide (u2 > 1000000))) || (decide (u1 > 1099511627776))) (v := decide (u1 < (-1099511627776))) rfl (by kernel_rfl) (by kernel_rfl) (by kernel_rfl) rfl) ?_; intro a65 hF66; clear hF64
  refine nlH (hQ35 _ _ ?_); clear hQ35 hQ35Q
  refine cd hF66 (t := (((decide (u2 < 1)) || (decide (u2 > 1000000))) || (decide (u1 > 1099511627776))) || (decide (u1 < (-1099511627776)))) (by kernel_rfl) (fun hb67 => ?_) (fun hb67 => ?_)
  ·
   have hp68 := hp34.1 hb67; clear hp34
   have hF69 : Fr 171 [] [] a65 := hF66.reg; clear hF66
   refine sqH ?_; intro hQ70Q hQ70
   refine s1 hF69 6 (.int .i64 0) ?_; intro a71 hF72; clear hF69
   refine s1 hF72 7 (.int .i64 3) ?_; intro a73 hF74; clear hF72
   refine nlH (hQ70 _ _ ?_); clear hQ70 hQ70Q
   refine wp_ret ?_
   refine thr ?_
   refine rt (fn := Tryd.f13) (v := .tuple #[.int .i64 0, .int .i64 3]) hF74 (re2 hF74 (fn := Tryd.f13) rfl (by kernel_rfl) (by kernel_rfl)) ?_
   exact ⟨(0, 3), rfl, hp68, hM17.below⟩
  ·
   have hp75 := hp34.2 hb67; clear hp34
   refine wp_skip ?_
   refine thn ?_
   have hF76 : Fr 171 [] [⟨1, [], .int .i64 u1⟩, ⟨2, [], .int .i64 u2⟩, ⟨3, [], .pointer (some ⟨b2, 0, none⟩)⟩] a65 := hF66.reg; clear hF66
   refine sqH ?_; intro hQ77Q hQ77
   refine s1 hF76 36 (.int .i64 u1) ?_; intro a78 hF79; clear hF76
   refine s1 hF79 37 (.pointer (some ⟨b2, 7, none⟩)) ?_; intro a80 hF81; clear hF79
   refine l1 hF81 hM17 38 0 7 (.int .i64 u0.Add) rfl rfl ?_; intro a82 hF83; clear hF81
   refine s1 hF83 39 (.int .i64 u2) ?_; intro a84 hF85; clear hF83
   refine s1 hF85 40 (.int .i64 (w64 (u0.Add * u2))) ?_; intro a86 hF87; clear hF85
   refine s1 hF87 41 (.int .i64 (w64 (u1 - (w64 (u0.Add * u2))))) ?_; intro a88 hF89; clear hF87
   refine s1 hF89 9 (.int .i64 (w64 (u1 - (w64 (u0.Add * u2))))) ?_; intro a90 hF91; clear hF89
   refine nlH (hQ77 _ _ ?_); clear hQ77 hQ77Q
   refine sqH ?_; intro hQ92Q hQ92
   refine s1 hF91 42 (.pointer (some ⟨b2, 6, none⟩)) ?_; intro a93 hF94; clear hF91
   refine l1 hF94 hM17 43 0 6 (.int .i64 u0.Div) rfl rfl ?_; intro a95 hF96; clear hF94
   refine s1 hF96 44 (.pointer (some ⟨b2, 5, none⟩)) ?_; intro a97 hF98; clear hF96
   refine l1 hF98 hM17 45 0 5 (.int .i64 u0.Mul) rfl rfl ?_; intro a99 hF100; clear hF98
   refine cl hF100 45 #[.int .i64 u0.Div, .int .i64 u0.Mul] (nog rfl _) rfl (by kernel_rfl) (by kernel_rfl) ?_
   refine (sgcd_walk u0.Div u0.Mul _ _ hM17.fz hp75).mono ?_; rintro _ wd102 ⟨r101, rfl, hp106, hb⟩; refine ⟨_, rfl, ?_⟩; intro a103 hF104; have hM105 := hM17.call hb; clear hb hM17 hF100
   refine s1 hF104 10 (.int .i64 r101) ?_; intro a107 hF108; clear hF104
   refine nlH (hQ92 _ _ ?_); clear hQ92 hQ92Q
   have hF109 : Fr 171 [] [⟨2, [], .int .i64 u2⟩, ⟨3, [], .pointer (some ⟨b2, 0, none⟩)⟩, ⟨9, [], .int .i64 (w64 (u1 - (w64 (u0.Add * u2))))⟩, ⟨10, [], .int .i64 r101⟩] a107 := hF108.reg; clear hF108
   refine sqQH mixed (by kernel_rfl) hM105 ?_; intro hQ110Q hQ110
   refine q1 hF109 47 (.pointer (some ⟨b2, 6, none⟩)) ?_; intro a112 hF113; clear hF109
   refine qst hF113 (.int .i64 u0.Div) (nog rfl _) rfl (by kernel_rfl) (fun v114 hC => ld hF113 hC 0 (g := []) (b := b2) (off := 6) (cs := [str u0.Name, .int .i64 u0.Start, .int .i64 u0.Size, .bool u0.Back, .bool u0.Signed, .int .i64 u0.Mul, .int .i64 u0.Div, .int .i64 u0.Add, .int .i64 u0.Key]) (ty := 23) rfl (by kernel_rfl) (by kernel_rfl) (by kernel_rfl) (by kernel_rfl) rfl) ?_; intro a115 hF116; clear hF113
   refine q1 hF116 49 (.int .i64 r101) ?_; intro a118 hF119; clear hF116
   have hc121 := hp106.1; have hp122 := hp106.2; clear hp106
   refine qst hF119 (.int .i64 (w64 (u0.Div.tdiv r101))) (nog rfl _) rfl (by kernel_rfl) (fun v120 hC => quo_run hF119 (g := []) rfl (by kernel_rfl) (by kernel_rfl) hc121 rfl) ?_; intro a123 hF124; clear hF119
   refine q1 hF124 51 (.pointer (some ⟨b2, 5, none⟩)) ?_; intro a126 hF127; clear hF124
   refine qst hF127 (.int .i64 u0.Mul) (nog rfl _) rfl (by kernel_rfl) (fun v128 hC => ld hF127 hC 0 (g := []) (b := b2) (off := 5) (cs := [str u0.Name, .int .i64 u0.Start, .int .i64 u0.Size, .bool u0.Back, .bool u0.Signed, .int .i64 u0.Mul, .int .i64 u0.Div, .int .i64 u0.Add, .int .i64 u0.Key]) (ty := 23) rfl (by kernel_rfl) (by kernel_rfl) (by kernel_rfl) (by kernel_rfl) rfl) ?_; intro a129 hF130; clear hF127
   refine q1 hF130 53 (.int .i64 r101) ?_; intro a132 hF133; clear hF130
   have hc135 := hp122.1; have hp136 := hp122.2; clear hp122
   refine qst hF133 (.int .i64 (w64 (u0.Mul.tdiv r101))) (nog rfl _) rfl (by kernel_rfl) (fun v134 hC => quo_run hF133 (g := []) rfl (by kernel_rfl) (by kernel_rfl) hc135 rfl) ?_; intro a137 hF138; clear hF133
   refine q1 hF138 11 (.int .i64 (w64 (u0.Div.tdiv r101))) ?_; intro a140 hF141; clear hF138
   refine q1 hF141 12 (.int .i64 (w64 (u0.Mul.tdiv r101))) ?_; intro a143 hF144; clear hF141
   refine qnl (hQ110 _ ?_); clear hQ110 hQ110Q; intro wd145 hM146; clear hM105
   refine wp_seq ?_
   refine sqH ?_; intro hQ147Q hQ147
   refine s1 hF144 55 (.int .i64 (w64 (u0.Mul.tdiv r101))) ?_; intro a148 hF149; clear hF144
   refine s1 hF149 56 (.bool (decide ((w64 (u0.Mul.tdiv r101)) < 0))) ?_; intro a150 hF151; clear hF149
   refine nlH (hQ147 _ _ ?_); clear hQ147 hQ147Q
   have hF152 : Fr 171 [] [⟨2, [], .int .i64 u2⟩, ⟨3, [], .pointer (some ⟨b2, 0, none⟩)⟩, ⟨9, [], .int .i64 (w64 (u1 - (w64 (u0.Add * u2))))⟩, ⟨11, [], .int .i64 (w64 (u0.Div.tdiv r101))⟩, ⟨12, [], .int .i64 (w64 (u0.Mul.tdiv r101))⟩, ⟨56, [], .bool (decide ((w64 (u0.Mul.tdiv r101)) < 0))⟩] a150 := hF151.reg; clear hF151
   have hF154 : Fr 171 [] [⟨2, [], .int .i64 u2⟩, ⟨3, [], .pointer (some ⟨b2, 0, none⟩)⟩, ⟨9, [], .int .i64 (w64 (u1 - (w64 (u0.Add * u2))))⟩, ⟨11, [], .int .i64 (w64 (u0.Div.tdiv r101))⟩, ⟨12, [], .int .i64 (w64 (u0.Mul.tdiv r101))⟩, ⟨56, [], .bool (decide ((w64 (u0.Mul.tdiv r101)) < 0))⟩] a150 := hF152.reg; clear hF152
   obtain ⟨inv153, hp155, hp156⟩ := hp136
   refine wp_then_k fun KJ157 hKJ158 => ?_
   have hJ159 : ∀ (x11 : Int) (x12 : Int), inv153 x11 x12 → ∀ a1 w1, Fr 171 [] [⟨2, [], .int .i64 u2⟩, ⟨3, [], .pointer (some ⟨b2, 0, none⟩)⟩, ⟨9, [], .int .i64 (w64 (u1 - (w64 (u0.Add * u2))))⟩, ⟨11, [], .int .i64 x11⟩, ⟨12, [], .int .i64 x12⟩] a1 → Mem w.heap.size [] w Z [.row b2 [str u0.Name, .int .i64 u0.Start, .int .i64 u0.Size, .bool u0.Back, .bool u0.Signed, .int .i64 u0.Mul, .int .i64 u0.Div, .int .i64 u0.Add, .int .i64 u0.Key] 23] Z w1 → KJ157 a1 w1 := by
    rintro x11 x12 hI164 a160 wd161 hF162 hM163; clear hF154 hM146
    refine hKJ158 _ _ ?_; clear hKJ158
    have hp165 := hp156 x11 x12 hI164
    refine sqH ?_; intro hQ166Q hQ166
    refine s1 hF162 61 (.int .i64 (w64 (u1 - (w64 (u0.Add * u2))))) ?_; intro a167 hF168; clear hF162
    refine s1 hF168 62 (.int .i64 u2) ?_; intro a169 hF170; clear hF168
    refine cl hF170 45 #[.int .i64 (w64 (u1 - (w64 (u0.Add * u2)))), .int .i64 u2] (nog rfl _) rfl (by kernel_rfl) (by kernel_rfl) ?_
    refine (sgcd_walk (w64 (u1 - (w64 (u0.Add * u2)))) u2 _ _ hM163.fz hp165).mono ?_; rintro _ wd172 ⟨r171, rfl, hp176, hb⟩; refine ⟨_, rfl, ?_⟩; intro a173 hF174; have hM175 := hM163.call hb; clear hb hM163 hF170
    refine s1 hF174 13 (.int .i64 r171) ?_; intro a177 hF178; clear hF174
    refine nlH (hQ166 _ _ ?_); clear hQ166 hQ166Q
    have hF179 : Fr 171 [] [⟨2, [], .int .i64 u2⟩, ⟨3, [], .pointer (some ⟨b2, 0, none⟩)⟩, ⟨9, [], .int .i64 (w64 (u1 - (w64 (u0.Add * u2))))⟩, ⟨11, [], .int .i64 x11⟩, ⟨12, [], .int .i64 x12⟩, ⟨13, [], .int .i64 r171⟩] a177 := hF178.reg; clear hF178
    refine sqQH mixed (by kernel_rfl) hM175 ?_; intro hQ180Q hQ180
    refine q1 hF179 64 (.int .i64 (w64 (u1 - (w64 (u0.Add * u2))))) ?_; intro a182 hF183; clear hF179
    refine q1 hF183 65 (.int .i64 r171) ?_; intro a185 hF186; clear hF183
    have hc188 := hp176.1; have hp189 := hp176.2; clear hp176
    refine qst hF186 (.int .i64 (w64 ((w64 (u1 - (w64 (u0.Add * u2)))).tdiv r171))) (nog rfl _) rfl (by kernel_rfl) (fun v187 hC => quo_run hF186 (g := []) rfl (by kernel_rfl) (by kernel_rfl) hc188 rfl) ?_; intro a190 hF191; clear hF186
    refine q1 hF191 67 (.int .i64 u2) ?_; intro a193 hF194; clear hF191
    refine q1 hF194 68 (.int .i64 r171) ?_; intro a196 hF197; clear hF194
    have hc199 := hp189.1; have hp200 := hp189.2; clear hp189
    refine qst hF197 (.int .i64 (w64 (u2.tdiv r171))) (nog rfl _) rfl (by kernel_rfl) (fun v198 hC => quo_run hF197 (g := []) rfl (by kernel_rfl) (by kernel_rfl) hc199 rfl) ?_; intro a201 hF202; clear hF197
    refine q1 hF202 9 (.int .i64 (w64 ((w64 (u1 - (w64 (u0.Add * u2)))).tdiv r171))) ?_; intro a204 hF205; clear hF202
    refine q1 hF205 2 (.int .i64 (w64 (u2.tdiv r171))) ?_; intro a207 hF208; clear hF205
    refine qnl (hQ180 _ ?_); clear hQ180 hQ180Q; intro wd209 hM210; clear hM175
    refine sqH ?_; intro hQ211Q hQ211
    refine s1 hF208 70 (.int .i64 x11) ?_; intro a212 hF213; clear hF208
    refine s1 hF213 71 (.int .i64 (w64 (u2.tdiv r171))) ?_; intro a214 hF215; clear hF213
    refine cl hF215 45 #[.int .i64 x11, .int .i64 (w64 (u2.tdiv r171))] (nog rfl _) rfl (by kernel_rfl) (by kernel_rfl) ?_
    refine (sgcd_walk x11 (w64 (u2.tdiv r171)) _ _ hM210.fz hp200).mono ?_; rintro _ wd217 ⟨r216, rfl, hp221, hb⟩; refine ⟨_, rfl, ?_⟩; intro a218 hF219; have hM220 := hM210.call hb; clear hb hM210 hF215
    refine s1 hF219 13 (.int .i64 r216) ?_; intro a222 hF223; clear hF219
    refine nlH (hQ211 _ _ ?_); clear hQ211 hQ211Q
    have hF224 : Fr 171 [] [⟨2, [], .int .i64 (w64 (u2.tdiv r171))⟩, ⟨3, [], .pointer (some ⟨b2, 0, none⟩)⟩, ⟨9, [], .int .i64 (w64 ((w64 (u1 - (w64 (u0.Add * u2)))).tdiv r171))⟩, ⟨11, [], .int .i64 x11⟩, ⟨12, [], .int .i64 x12⟩, ⟨13, [], .int .i64 r216⟩] a222 := hF223.reg; clear hF223
    refine sqQH mixed (by kernel_rfl) hM220 ?_; intro hQ225Q hQ225
    refine q1 hF224 73 (.int .i64 x11) ?_; intro a227 hF228; clear hF224
    refine q1 hF228 74 (.int .i64 r216) ?_; intro a230 hF231; clear hF228
    have hc233 := hp221.1; have hp234 := hp221.2; clear hp221
    refine qst hF231 (.int .i64 (w64 (x11.tdiv r216))) (nog rfl _) rfl (by kernel_rfl) (fun v232 hC => quo_run hF231 (g := []) rfl (by kernel_rfl) (by kernel_rfl) hc233 rfl) ?_; intro a235 hF236; clear hF231
    refine q1 hF236 76 (.int .i64 (w64 (u2.tdiv r171))) ?_; intro a238 hF239; clear hF236
    refine q1 hF239 77 (.int .i64 r216) ?_; intro a241 hF242; clear hF239
    have hc244 := hp234.1; have hp245 := hp234.2; clear hp234
    refine qst hF242 (.int .i64 (w64 ((w64 (u2.tdiv r171)).tdiv r216))) (nog rfl _) rfl (by kernel_rfl) (fun v243 hC => quo_run hF242 (g := []) rfl (by kernel_rfl) (by kernel_rfl) hc244 rfl) ?_; intro a246 hF247; clear hF242
    refine q1 hF247 11 (.int .i64 (w64 (x11.tdiv r216))) ?_; intro a249 hF250; clear hF247
    refine q1 hF250 2 (.int .i64 (w64 ((w64 (u2.tdiv r171)).tdiv r216))) ?_; intro a252 hF253; clear hF250
    refine qnl (hQ225 _ ?_); clear hQ225 hQ225Q; intro wd254 hM255; clear hM220
    refine sqH ?_; intro hQ256Q hQ256
    refine s1 hF253 79 (.int .i64 (w64 ((w64 (u1 - (w64 (u0.Add * u2)))).tdiv r171))) ?_; intro a257 hF258; clear hF253
    refine s1 hF258 80 (.int .i64 x12) ?_; intro a259 hF260; clear hF258
    refine cl hF260 45 #[.int .i64 (w64 ((w64 (u1 - (w64 (u0.Add * u2)))).tdiv r171)), .int .i64 x12] (nog rfl _) rfl (by kernel_rfl) (by kernel_rfl) ?_
    refine (sgcd_walk (w64 ((w64 (u1 - (w64 (u0.Add * u2)))).tdiv r171)) x12 _ _ hM255.fz hp245).mono ?_; rintro _ wd262 ⟨r261, rfl, hp266, hb⟩; refine ⟨_, rfl, ?_⟩; intro a263 hF264; have hM265 := hM255.call hb; clear hb hM255 hF260
    refine s1 hF264 13 (.int .i64 r261) ?_; intro a267 hF268; clear hF264
    refine nlH (hQ256 _ _ ?_); clear hQ256 hQ256Q
    have hF269 : Fr 171 [] [⟨2, [], .int .i64 (w64 ((w64 (u2.tdiv r171)).tdiv r216))⟩, ⟨3, [], .pointer (some ⟨b2, 0, none⟩)⟩, ⟨9, [], .int .i64 (w64 ((w64 (u1 - (w64 (u0.Add * u2)))).tdiv r171))⟩, ⟨11, [], .int .i64 (w64 (x11.tdiv r216))⟩, ⟨12, [], .int .i64 x12⟩, ⟨13, [], .int .i64 r261⟩] a267 := hF268.reg; clear hF268
    refine sqQH mixed (by kernel_rfl) hM265 ?_; intro hQ270Q hQ270
    refine q1 hF269 82 (.int .i64 (w64 ((w64 (u1 - (w64 (u0.Add * u2)))).tdiv r171))) ?_; intro a272 hF273; clear hF269
    refine q1 hF273 83 (.int .i64 r261) ?_; intro a275 hF276; clear hF273
    have hc278 := hp266.1; have hp279 := hp266.2; clear hp266
    refine qst hF276 (.int .i64 (w64 ((w64 ((w64 (u1 - (w64 (u0.Add * u2)))).tdiv r171)).tdiv r261))) (nog rfl _) rfl (by kernel_rfl) (fun v277 hC => quo_run hF276 (g := []) rfl (by kernel_rfl) (by kernel_rfl) hc278 rfl) ?_; intro a280 hF281; clear hF276
    refine q1 hF281 85 (.int .i64 x12) ?_; intro a283 hF284; clear hF281
    refine q1 hF284 86 (.int .i64 r261) ?_; intro a286 hF287; clear hF284
    have hc289 := hp279.1; have hp290 := hp279.2; clear hp279
    refine qst hF287 (.int .i64 (w64 (x12.tdiv r261))) (nog rfl _) rfl (by kernel_rfl) (fun v288 hC => quo_run hF287 (g := []) rfl (by kernel_rfl) (by kernel_rfl) hc289 rfl) ?_; intro a291 hF292; clear hF287
    refine q1 hF292 9 (.int .i64 (w64 ((w64 ((w64 (u1 - (w64 (u0.Add * u2)))).tdiv r171)).tdiv r261))) ?_; intro a294 hF295; clear hF292
    refine q1 hF295 12 (.int .i64 (w64 (x12.tdiv r261))) ?_; intro a297 hF298; clear hF295
    refine qnl (hQ270 _ ?_); clear hQ270 hQ270Q; intro wd299 hM300; clear hM265
    refine wp_seq ?_
    refine sqH ?_; intro hQ301Q hQ301
    refine s1 hF298 88 (.int .i64 (w64 ((w64 (u2.tdiv r171)).tdiv r216))) ?_; intro a302 hF303; clear hF298
    refine s1 hF303 89 (.bool ((w64 ((w64 (u2.tdiv r171)).tdiv r216)) != 1)) ?_; intro a304 hF305; clear hF303
    refine s1 hF305 90 (.bool ((w64 ((w64 (u2.tdiv r171)).tdiv r216)) != 1)) ?_; intro a306 hF307; clear hF305
    have hF308 := hF307.atom (((w64 ((w64 (u2.tdiv r171)).tdiv r216)) != 1) == false) (by kernel_rfl); clear hF307
    refine gp hF308 91 0 [] ((w64 ((w64 (u2.tdiv r171)).tdiv r216)) != 1) (.int .i64 (w64 (x12.tdiv r261))) rfl rfl ?_; intro a309 hF310; clear hF308
    refine gp hF310 92 0 [] ((w64 ((w64 (u2.tdiv r171)).tdiv r216)) != 1) (.bool ((w64 (x12.tdiv r261)) != 1)) rfl rfl ?_; intro a311 hF312; clear hF310
    refine st hF312 (.bool (((w64 ((w64 (u2.tdiv r171)).tdiv r216)) != 1) || ((w64 (x12.tdiv r261)) != 1))) (nog rfl _) rfl (by kernel_rfl) (pk_or hF312 (g := []) (m := 0) (b := (w64 ((w64 (u2.tdiv r171)).tdiv r216)) != 1) (v := (w64 (x12.tdiv r261)) != 1) rfl (by kernel_rfl) (by kernel_rfl) (by kernel_rfl) rfl) ?_; intro a313 hF314; clear hF312
    refine nlH (hQ301 _ _ ?_); clear hQ301 hQ301Q
    refine cd hF314 (t := ((w64 ((w64 (u2.tdiv r171)).tdiv r216)) != 1) || ((w64 (x12.tdiv r261)) != 1)) (by kernel_rfl) (fun hb315 => ?_) (fun hb315 => ?_)
    ·
     have hp316 := hp290.1 hb315; clear hp290
     have hF317 : Fr 171 [] [] a313 := hF314.reg; clear hF314
     refine sqH ?_; intro hQ318Q hQ318
     refine s1 hF317 6 (.int .i64 0) ?_; intro a319 hF320; clear hF317
     refine s1 hF320 7 (.int .i64 4) ?_; intro a321 hF322; clear hF320
     refine nlH (hQ318 _ _ ?_); clear hQ318 hQ318Q
     refine wp_ret ?_
     refine thr ?_
     refine rt (fn := Tryd.f13) (v := .tuple #[.int .i64 0, .int .i64 4]) hF322 (re2 hF322 (fn := Tryd.f13) rfl (by kernel_rfl) (by kernel_rfl)) ?_
     exact ⟨(0, 4), rfl, hp316, hM300.below⟩
    ·
     have hp323 := hp290.2 hb315; clear hp290
     refine wp_skip ?_
     refine thn ?_
     have hF324 : Fr 171 [] [⟨3, [], .pointer (some ⟨b2, 0, none⟩)⟩, ⟨9, [], .int .i64 (w64 ((w64 ((w64 (u1 - (w64 (u0.Add * u2)))).tdiv r171)).tdiv r261))⟩, ⟨11, [], .int .i64 (w64 (x11.tdiv r216))⟩] a313 := hF314.reg; clear hF314
     refine sqH ?_; intro hQ325Q hQ325
     refine l2 hF324 hM300 95 0 0 9 [str u0.Name, .int .i64 u0.Start, .int .i64 u0.Size, .bool u0.Back, .bool u0.Signed, .int .i64 u0.Mul, .int .i64 u0.Div, .int .i64 u0.Add, .int .i64 u0.Key] rfl rfl ?_; intro a326 hF327; clear hF324
     have hc328 := hp323.1; have hp329 := hp323.2; clear hp323
     refine fcl hF327 hM300 (.tuple #[.int .i64 ((boundsS u0).1), .int .i64 ((boundsS u0).2)]) 46 #[.agg #[str u0.Name, .int .i64 u0.Start, .int .i64 u0.Size, .bool u0.Back, .bool u0.Signed, .int .i64 u0.Mul, .int .i64 u0.Div, .int .i64 u0.Add, .int .i64 u0.Key]] (nog rfl _) rfl (by kernel_rfl) (fun _ => by kernel_rfl) (sbounds_fun u0 hc328 _ _ hM300.fz) ?_; intro a330 wd332 hF331 hM333; clear hF327 hM300
     refine s1 hF331 94 (.tuple #[.int .i64 ((boundsS u0).1), .int .i64 ((boundsS u0).2)]) ?_; intro a334 hF335; clear hF331
     refine s1 hF335 97 (.int .i64 ((boundsS u0).1)) ?_; intro a336 hF337; clear hF335
     refine s1 hF337 98 (.int .i64 ((boundsS u0).2)) ?_; intro a338 hF339; clear hF337
     refine s1 hF339 14 (.int .i64 ((boundsS u0).1)) ?_; intro a340 hF341; clear hF339
     refine s1 hF341 15 (.int .i64 ((boundsS u0).2)) ?_; intro a342 hF343; clear hF341
     refine nlH (hQ325 _ _ ?_); clear hQ325 hQ325Q
     refine wp_seq ?_
     refine sqH ?_; intro hQ344Q hQ344
     refine s1 hF343 99 (.int .i64 (w64 ((w64 ((w64 (u1 - (w64 (u0.Add * u2)))).tdiv r171)).tdiv r261))) ?_; intro a345 hF346; clear hF343
     refine s1 hF346 100 (.bool (decide ((w64 ((w64 ((w64 (u1 - (w64 (u0.Add * u2)))).tdiv r171)).tdiv r261)) > 0))) ?_; intro a347 hF348; clear hF346
     refine s1 hF348 101 (.bool (decide ((w64 ((w64 ((w64 (u1 - (w64 (u0.Add * u2)))).tdiv r171)).tdiv r261)) > 0))) ?_; intro a349 hF350; clear hF348
     have hF351 := hF350.atom ((decide ((w64 ((w64 ((w64 (u1 - (w64 (u0.Add * u2)))).tdiv r171)).tdiv r261)) > 0)) == true) (by kernel_rfl); clear hF350
     refine gp hF351 102 0 [] (decide ((w64 ((w64 ((w64 (u1 - (w64 (u0.Add * u2)))).tdiv r171)).tdiv r261)) > 0)) (.int .i64 (w64 (x11.tdiv r216))) rfl rfl ?_; intro a352 hF353; clear hF351
     refine gp hF353 103 0 [] (decide ((w64 ((w64 ((w64 (u1 - (w64 (u0.Add * u2)))).tdiv r171)).tdiv r261)) > 0)) (.bool (decide ((w64 (x11.tdiv r216)) > 0))) rfl rfl ?_; intro a354 hF355; clear hF353
     refine st hF355 (.bool ((decide ((w64 ((w64 ((w64 (u1 - (w64 (u0.Add * u2)))).tdiv r171)).tdiv r261)) > 0)) && (decide ((w64 (x11.tdiv r216)) > 0)))) (nog rfl _) rfl (by kernel_rfl) (pk_and hF355 (g := []) (m := 0) (b := decide ((w64 ((w64 ((w64 (u1 - (w64 (u0.Add * u2)))).tdiv r171)).tdiv r261)) > 0)) (v := decide ((w64 (x11.tdiv r216)) > 0)) rfl (by kernel_rfl) (by kernel_rfl) (by kernel_rfl) rfl) ?_; intro a356 hF357; clear hF355
     refine s1 hF357 105 (.bool ((decide ((w64 ((w64 ((w64 (u1 - (w64 (u0.Add * u2)))).tdiv r171)).tdiv r261)) > 0)) && (decide ((w64 (x11.tdiv r216)) > 0)))) ?_; intro a358 hF359; clear hF357
     have hF360 := hF359.atom (((decide ((w64 ((w64 ((w64 (u1 - (w64 (u0.Add * u2)))).tdiv r171)).tdiv r261)) > 0)) && (decide ((w64 (x11.tdiv r216)) > 0))) == true) (by kernel_rfl); clear hF359
     refine gp hF360 106 1 [] ((decide ((w64 ((w64 ((w64 (u1 - (w64 (u0.Add * u2)))).tdiv r171)).tdiv r261)) > 0)) && (decide ((w64 (x11.tdiv r216)) > 0))) (.int .i64 (w64 ((w64 ((w64 (u1 - (w64 (u0.Add * u2)))).tdiv r171)).tdiv r261))) rfl rfl ?_; intro a361 hF362; clear hF360
     refine gp hF362 107 1 [] ((decide ((w64 ((w64 ((w64 (u1 - (w64 (u0.Add * u2)))).tdiv r171)).tdiv r261)) > 0)) && (decide ((w64 (x11.tdiv r216)) > 0))) (.int .i64 ((boundsS u0).2)) rfl rfl ?_; intro a363 hF364; clear hF362
     refine gp hF364 108 1 [] ((decide ((w64 ((w64 ((w64 (u1 - (w64 (u0.Add * u2)))).tdiv r171)).tdiv r261)) > 0)) && (decide ((w64 (x11.tdiv r216)) > 0))) (.int .i64 (w64 (x11.tdiv r216))) rfl rfl ?_; intro a365 hF366; clear hF364
     rcases Bool.eq_false_or_eq_true ((decide ((w64 ((w64 ((w64 (u1 - (w64 (u0.Add * u2)))).tdiv r171)).tdiv r261)) > 0)) && (decide ((w64 (x11.tdiv r216)) > 0))) with hb367 | hb367
     ·
      have hp368 := hp329.1 hb367; clear hp329
      have hF369 := hF366.reval (d := 105) (c := []) (v := .bool ((decide ((w64 ((w64 ((w64 (u1 - (w64 (u0.Add * u2)))).tdiv r171)).tdiv r261)) > 0)) && (decide ((w64 (x11.tdiv r216)) > 0)))) (by kernel_rfl) (.bool true) (by rw [hb367]); clear hF366
      have hF370 := hF369.setc (d := 106) (c := [1]) (v := .int .i64 (w64 ((w64 ((w64 (u1 - (w64 (u0.Add * u2)))).tdiv r171)).tdiv r261))) (by kernel_rfl) (v' := .int .i64 (w64 ((w64 ((w64 (u1 - (w64 (u0.Add * u2)))).tdiv r171)).tdiv r261))) (by rw [hb367]; kernel_rfl); clear hF369
      have hF371 := hF370.setc (d := 107) (c := [1]) (v := .int .i64 ((boundsS u0).2)) (by kernel_rfl) (v' := .int .i64 ((boundsS u0).2)) (by rw [hb367]; kernel_rfl); clear hF370
      have hF372 := hF371.setc (d := 108) (c := [1]) (v := .int .i64 (w64 (x11.tdiv r216))) (by kernel_rfl) (v' := .int .i64 (w64 (x11.tdiv r216))) (by rw [hb367]; kernel_rfl); clear hF371
      have hc373 := hp368.1; have hp374 := hp368.2; clear hp368
      refine st hF372 (.int .i64 (w64 (((boundsS u0).2).tdiv (w64 (x11.tdiv r216))))) (by rw [wanted_of hF372 (b := true) rfl rfl (by kernel_rfl) (by kernel_rfl)]; rfl) rfl (by kernel_rfl) (quo_run hF372 (g := []) rfl (by kernel_rfl) (by kernel_rfl) hc373 rfl) ?_; intro a375 hF376; clear hF372
      refine st hF376 (.bool (decide ((w64 ((w64 ((w64 (u1 - (w64 (u0.Add * u2)))).tdiv r171)).tdiv r261)) > (w64 (((boundsS u0).2).tdiv (w64 (x11.tdiv r216))))))) (by rw [wanted_of hF376 (b := true) rfl rfl (by kernel_rfl) (by kernel_rfl)]; rfl) rfl (by kernel_rfl) (p0 hF376 (by kernel_rfl)) ?_; intro a377 hF378; clear hF376
      refine s1 hF378 111 (.bool (decide ((w64 ((w64 ((w64 (u1 - (w64 (u0.Add * u2)))).tdiv r171)).tdiv r261)) > (w64 (((boundsS u0).2).tdiv (w64 (x11.tdiv r216))))))) ?_; intro a379 hF380; clear hF378
      refine s1 hF380 112 (.bool (decide ((w64 ((w64 ((w64 (u1 - (w64 (u0.Add * u2)))).tdiv r171)).tdiv r261)) > (w64 (((boundsS u0).2).tdiv (w64 (x11.tdiv r216))))))) ?_; intro a381 hF382; clear hF380
      have hF383 := hF382.atom ((decide ((w64 ((w64 ((w64 (u1 - (w64 (u0.Add * u2)))).tdiv r171)).tdiv r261)) > (w64 (((boundsS u0).2).tdiv (w64 (x11.tdiv r216)))))) == false) (by kernel_rfl); clear hF382
      refine gp hF383 113 2 [] (decide ((w64 ((w64 ((w64 (u1 - (w64 (u0.Add * u2)))).tdiv r171)).tdiv r261)) > (w64 (((boundsS u0).2).tdiv (w64 (x11.tdiv r216)))))) (.int .i64 (w64 ((w64 ((w64 (u1 - (w64 (u0.Add * u2)))).tdiv r171)).tdiv r261))) rfl rfl ?_; intro a384 hF385; clear hF383
      refine gp hF385 114 2 [] (decide ((w64 ((w64 ((w64 (u1 - (w64 (u0.Add * u2)))).tdiv r171)).tdiv r261)) > (w64 (((boundsS u0).2).tdiv (w64 (x11.tdiv r216)))))) (.bool (decide ((w64 ((w64 ((w64 (u1 - (w64 (u0.Add * u2)))).tdiv r171)).tdiv r261)) < 0))) rfl rfl ?_; intro a386 hF387; clear hF385
      refine gp hF387 115 2 [] (decide ((w64 ((w64 ((w64 (u1 - (w64 (u0.Add * u2)))).tdiv r171)).tdiv r261)) > (w64 (((boundsS u0).2).tdiv (w64 (x11.tdiv r216)))))) (.bool (decide ((w64 ((w64 ((w64 (u1 - (w64 (u0.Add * u2)))).tdiv r171)).tdiv r261)) < 0))) rfl rfl ?_; intro a388 hF389; clear hF387
      have hF390 := hF389.atom ((decide ((w64 ((w64 ((w64 (u1 - (w64 (u0.Add * u2)))).tdiv r171)).tdiv r261)) < 0)) == true) (by kernel_rfl); clear hF389
      refine gp hF390 116 3 [2] (decide ((w64 ((w64 ((w64 (u1 - (w64 (u0.Add * u2)))).tdiv r171)).tdiv r261)) < 0)) (.int .i64 (w64 (x11.tdiv r216))) rfl rfl ?_; intro a391 hF392; clear hF390
      refine gp hF392 117 3 [2] (decide ((w64 ((w64 ((w64 (u1 - (w64 (u0.Add * u2)))).tdiv r171)).tdiv r261)) < 0)) (.bool (decide ((w64 (x11.tdiv r216)) > 0))) rfl rfl ?_; intro a393 hF394; clear hF392
      refine gd hF394 (.bool ((decide ((w64 ((w64 ((w64 (u1 - (w64 (u0.Add * u2)))).tdiv r171)).tdiv r261)) < 0)) && (decide ((w64 (x11.tdiv r216)) > 0)))) (m := 2) (cj := []) (bj := decide ((w64 ((w64 ((w64 (u1 - (w64 (u0.Add * u2)))).tdiv r171)).tdiv r261)) > (w64 (((boundsS u0).2).tdiv (w64 (x11.tdiv r216)))))) rfl rfl (by kernel_rfl) rfl (by kernel_rfl) (by kernel_rfl) (by kernel_rfl) (fun hg => pk_and hF394 (g := [2]) (m := 3) (b := decide ((w64 ((w64 ((w64 (u1 - (w64 (u0.Add * u2)))).tdiv r171)).tdiv r261)) < 0)) (v := decide ((w64 (x11.tdiv r216)) > 0)) rfl (by kernel_rfl) (by kernel_rfl) (by kernel_rfl) hg) ?_; intro a395 hF396; clear hF394
      refine gp hF396 119 2 [] (decide ((w64 ((w64 ((w64 (u1 - (w64 (u0.Add * u2)))).tdiv r171)).tdiv r261)) > (w64 (((boundsS u0).2).tdiv (w64 (x11.tdiv r216)))))) (.bool ((decide ((w64 ((w64 ((w64 (u1 - (w64 (u0.Add * u2)))).tdiv r171)).tdiv r261)) < 0)) && (decide ((w64 (x11.tdiv r216)) > 0)))) rfl rfl ?_; intro a397 hF398; clear hF396
      have hF399 := hF398.atom (((decide ((w64 ((w64 ((w64 (u1 - (w64 (u0.Add * u2)))).tdiv r171)).tdiv r261)) < 0)) && (decide ((w64 (x11.tdiv r216)) > 0))) == true) (by kernel_rfl); clear hF398
      refine gp hF399 120 4 [2] ((decide ((w64 ((w64 ((w64 (u1 - (w64 (u0.Add * u2)))).tdiv r171)).tdiv r261)) < 0)) && (decide ((w64 (x11.tdiv r216)) > 0))) (.int .i64 (w64 ((w64 ((w64 (u1 - (w64 (u0.Add * u2)))).tdiv r171)).tdiv r261))) rfl rfl ?_; intro a400 hF401; clear hF399
      refine gp hF401 121 4 [2] ((decide ((w64 ((w64 ((w64 (u1 - (w64 (u0.Add * u2)))).tdiv r171)).tdiv r261)) < 0)) && (decide ((w64 (x11.tdiv r216)) > 0))) (.int .i64 ((boundsS u0).1)) rfl rfl ?_; intro a402 hF403; clear hF401
      refine gp hF403 122 4 [2] ((decide ((w64 ((w64 ((w64 (u1 - (w64 (u0.Add * u2)))).tdiv r171)).tdiv r261)) < 0)) && (decide ((w64 (x11.tdiv r216)) > 0))) (.int .i64 (w64 (x11.tdiv r216))) rfl rfl ?_; intro a404 hF405; clear hF403
      rcases Bool.eq_false_or_eq_true (decide ((w64 ((w64 ((w64 (u1 - (w64 (u0.Add * u2)))).tdiv r171)).tdiv r261)) > (w64 (((boundsS u0).2).tdiv (w64 (x11.tdiv r216)))))) with hb406 | hb406
      ·
       have hp407 := hp374.1 hb406; clear hp374
       have hF408 := hF405.reval (d := 112) (c := []) (v := .bool (decide ((w64 ((w64 ((w64 (u1 - (w64 (u0.Add * u2)))).tdiv r171)).tdiv r261)) > (w64 (((boundsS u0).2).tdiv (w64 (x11.tdiv r216))))))) (by kernel_rfl) (.bool true) (by rw [hb406]); clear hF405
       have hF409 := hF408.setc (d := 113) (c := [2]) (v := .int .i64 (w64 ((w64 ((w64 (u1 - (w64 (u0.Add * u2)))).tdiv r171)).tdiv r261))) (by kernel_rfl) (v' := undef) (by rw [hb406]; kernel_rfl); clear hF408
       have hF410 := hF409.setc (d := 114) (c := [2]) (v := .bool (decide ((w64 ((w64 ((w64 (u1 - (w64 (u0.Add * u2)))).tdiv r171)).tdiv r261)) < 0))) (by kernel_rfl) (v' := undef) (by rw [hb406]; kernel_rfl); clear hF409
       have hF411 := hF410.setc (d := 115) (c := [2]) (v := .bool (decide ((w64 ((w64 ((w64 (u1 - (w64 (u0.Add * u2)))).tdiv r171)).tdiv r261)) < 0))) (by kernel_rfl) (v' := undef) (by rw [hb406]; kernel_rfl); clear hF410
       have hF412 := hF411.setc (d := 118) (c := [2]) (v := .bool ((decide ((w64 ((w64 ((w64 (u1 - (w64 (u0.Add * u2)))).tdiv r171)).tdiv r261)) < 0)) && (decide ((w64 (x11.tdiv r216)) > 0)))) (by kernel_rfl) (v' := undef) (by rw [hb406]; kernel_rfl); clear hF411
       have hF413 := hF412.setc (d := 119) (c := [2]) (v := .bool ((decide ((w64 ((w64 ((w64 (u1 - (w64 (u0.Add * u2)))).tdiv r171)).tdiv r261)) < 0)) && (decide ((w64 (x11.tdiv r216)) > 0)))) (by kernel_rfl) (v' := undef) (by rw [hb406]; kernel_rfl); clear hF412
       refine sku hF413 rfl rfl (by kernel_rfl) (by kernel_rfl) rfl (by kernel_rfl) ?_; intro a414 hF415; clear hF413
       refine sku hF415 rfl rfl (by kernel_rfl) (by kernel_rfl) rfl (by kernel_rfl) ?_; intro a416 hF417; clear hF415
       refine sk hF417 (b := true) rfl rfl (by kernel_rfl) (by kernel_rfl) rfl rfl (by kernel_rfl) ?_; intro a418 hF419; clear hF417
       refine s1 hF419 126 (.bool true) ?_; intro a420 hF421; clear hF419
       refine s1 hF421 127 (.bool true) ?_; intro a422 hF423; clear hF421
       refine sk hF423 (b := true) rfl rfl (by kernel_rfl) (by kernel_rfl) rfl rfl (by kernel_rfl) ?_; intro a424 hF425; clear hF423
       refine sk hF425 (b := true) rfl rfl (by kernel_rfl) (by kernel_rfl) rfl rfl (by kernel_rfl) ?_; intro a426 hF427; clear hF425
       refine sk hF427 (b := true) rfl rfl (by kernel_rfl) (by kernel_rfl) rfl rfl (by kernel_rfl) ?_; intro a428 hF429; clear hF427
       refine sku hF429 rfl rfl (by kernel_rfl) (by kernel_rfl) rfl (by kernel_rfl) ?_; intro a430 hF431; clear hF429
       refine sku hF431 rfl rfl (by kernel_rfl) (by kernel_rfl) rfl (by kernel_rfl) ?_; intro a432 hF433; clear hF431
       refine sk hF433 (b := true) rfl rfl (by kernel_rfl) (by kernel_rfl) rfl rfl (by kernel_rfl) ?_; intro a434 hF435; clear hF433
       refine sk hF435 (b := true) rfl rfl (by kernel_rfl) (by kernel_rfl) rfl rfl (by kernel_rfl) ?_; intro a436 hF437; clear hF435
       refine sku hF437 rfl rfl (by kernel_rfl) (by kernel_rfl) rfl (by kernel_rfl) ?_; intro a438 hF439; clear hF437
       refine sku hF439 rfl rfl (by kernel_rfl) (by kernel_rfl) rfl (by kernel_rfl) ?_; intro a440 hF441; clear hF439
       refine sku hF441 rfl rfl (by kernel_rfl) (by kernel_rfl) rfl (by kernel_rfl) ?_; intro a442 hF443; clear hF441
       refine sku hF443 rfl rfl (by kernel_rfl) (by kernel_rfl) rfl (by kernel_rfl) ?_; intro a444 hF445; clear hF443
       refine sku hF445 rfl rfl (by kernel_rfl) (by kernel_rfl) rfl (by kernel_rfl) ?_; intro a446 hF447; clear hF445
       refine sk hF447 (b := true) rfl rfl (by kernel_rfl) (by kernel_rfl) rfl rfl (by kernel_rfl) ?_; intro a448 hF449; clear hF447
       refine s1 hF449 141 (.bool true) ?_; intro a450 hF451; clear hF449
       refine s1 hF451 142 (.bool true) ?_; intro a452 hF453; clear hF451
       refine sk hF453 (b := true) rfl rfl (by kernel_rfl) (by kernel_rfl) rfl rfl (by kernel_rfl) ?_; intro a454 hF455; clear hF453
       refine sk hF455 (b := true) rfl rfl (by kernel_rfl) (by kernel_rfl) rfl rfl (by kernel_rfl) ?_; intro a456 hF457; clear hF455
       refine sk hF457 (b := true) rfl rfl (by kernel_rfl) (by kernel_rfl) rfl rfl (by kernel_rfl) ?_; intro a458 hF459; clear hF457
       refine sku hF459 rfl rfl (by kernel_rfl) (by kernel_rfl) rfl (by kernel_rfl) ?_; intro a460 hF461; clear hF459
       refine sku hF461 rfl rfl (by kernel_rfl) (by kernel_rfl) rfl (by kernel_rfl) ?_; intro a462 hF463; clear hF461
       refine sk hF463 (b := true) rfl rfl (by kernel_rfl) (by kernel_rfl) rfl rfl (by kernel_rfl) ?_; intro a464 hF465; clear hF463
       refine sk hF465 (b := true) rfl rfl (by kernel_rfl) (by kernel_rfl) rfl rfl (by kernel_rfl) ?_; intro a466 hF467; clear hF465
       refine sku hF467 rfl rfl (by kernel_rfl) (by kernel_rfl) rfl (by kernel_rfl) ?_; intro a468 hF469; clear hF467
       refine sku hF469 rfl rfl (by kernel_rfl) (by kernel_rfl) rfl (by kernel_rfl) ?_; intro a470 hF471; clear hF469
       refine sku hF471 rfl rfl (by kernel_rfl) (by kernel_rfl) rfl (by kernel_rfl) ?_; intro a472 hF473; clear hF471
       refine sku hF473 rfl rfl (by kernel_rfl) (by kernel_rfl) rfl (by kernel_rfl) ?_; intro a474 hF475; clear hF473
       refine sku hF475 rfl rfl (by kernel_rfl) (by kernel_rfl) rfl (by kernel_rfl) ?_; intro a476 hF477; clear hF475
       refine sk hF477 (b := true) rfl rfl (by kernel_rfl) (by kernel_rfl) rfl rfl (by kernel_rfl) ?_; intro a478 hF479; clear hF477
       refine s1 hF479 156 (.bool true) ?_; intro a480 hF481; clear hF479
       refine nlH (hQ344 _ _ ?_); clear hQ344 hQ344Q
       refine cdT hF481 (by kernel_rfl) ?_
       have hF482 : Fr 171 [] [] a480 := hF481.reg; clear hF481
       refine sqH ?_; intro hQ483Q hQ483
       refine s1 hF482 6 (.int .i64 0) ?_; intro a484 hF485; clear hF482
       refine s1 hF485 7 (.int .i64 3) ?_; intro a486 hF487; clear hF485
       refine nlH (hQ483 _ _ ?_); clear hQ483 hQ483Q
       refine wp_ret ?_
       refine thr ?_
       refine rt (fn := Tryd.f13) (v := .tuple #[.int .i64 0, .int .i64 3]) hF487 (re2 hF487 (fn := Tryd.f13) rfl (by kernel_rfl) (by kernel_rfl)) ?_
       exact ⟨(0, 3), rfl, hp407, hM333.below⟩
      ·
       have hp488 := hp374.2 hb406; clear hp374
       have hF489 := hF405.reval (d := 112) (c := []) (v := .bool (decide ((w64 ((w64 ((w64 (u1 - (w64 (u0.Add * u2)))).tdiv r171)).tdiv r261)) > (w64 (((boundsS u0).2).tdiv (w64 (x11.tdiv r216))))))) (by kernel_rfl) (.bool false) (by rw [hb406]); clear hF405
       have hF490 := hF489.setc (d := 113) (c := [2]) (v := .int .i64 (w64 ((w64 ((w64 (u1 - (w64 (u0.Add * u2)))).tdiv r171)).tdiv r261))) (by kernel_rfl) (v' := .int .i64 (w64 ((w64 ((w64 (u1 - (w64 (u0.Add * u2)))).tdiv r171)).tdiv r261))) (by rw [hb406]; kernel_rfl); clear hF489
       have hF491 := hF490.setc (d := 114) (c := [2]) (v := .bool (decide ((w64 ((w64 ((w64 (u1 - (w64 (u0.Add * u2)))).tdiv r171)).tdiv r261)) < 0))) (by kernel_rfl) (v' := .bool (decide ((w64 ((w64 ((w64 (u1 - (w64 (u0.Add * u2)))).tdiv r171)).tdiv r261)) < 0))) (by rw [hb406]; kernel_rfl); clear hF490
       have hF492 := hF491.setc (d := 115) (c := [2]) (v := .bool (decide ((w64 ((w64 ((w64 (u1 - (w64 (u0.Add * u2)))).tdiv r171)).tdiv r261)) < 0))) (by kernel_rfl) (v' := .bool (decide ((w64 ((w64 ((w64 (u1 - (w64 (u0.Add * u2)))).tdiv r171)).tdiv r261)) < 0))) (by rw [hb406]; kernel_rfl); clear hF491
       have hF493 := hF492.setc (d := 118) (c := [2]) (v := .bool ((decide ((w64 ((w64 ((w64 (u1 - (w64 (u0.Add * u2)))).tdiv r171)).tdiv r261)) < 0)) && (decide ((w64 (x11.tdiv r216)) > 0)))) (by kernel_rfl) (v' := .bool ((decide ((w64 ((w64 ((w64 (u1 - (w64 (u0.Add * u2)))).tdiv r171)).tdiv r261)) < 0)) && (decide ((w64 (x11.tdiv r216)) > 0)))) (by rw [hb406]; kernel_rfl); clear hF492
       have hF494 := hF493.setc (d := 119) (c := [2]) (v := .bool ((decide ((w64 ((w64 ((w64 (u1 - (w64 (u0.Add * u2)))).tdiv r171)).tdiv r261)) < 0)) && (decide ((w64 (x11.tdiv r216)) > 0)))) (by kernel_rfl) (v' := .bool ((decide ((w64 ((w64 ((w64 (u1 - (w64 (u0.Add * u2)))).tdiv r171)).tdiv r261)) < 0)) && (decide ((w64 (x11.tdiv r216)) > 0)))) (by rw [hb406]; kernel_rfl); clear hF493
       rcases Bool.eq_false_or_eq_true ((decide ((w64 ((w64 ((w64 (u1 - (w64 (u0.Add * u2)))).tdiv r171)).tdiv r261)) < 0)) && (decide ((w64 (x11.tdiv r216)) > 0))) with hb495 | hb495
       ·
        have hp496 := hp488.1 hb495; clear hp488
        have hF497 := hF494.reval (d := 119) (c := []) (v := .bool ((decide ((w64 ((w64 ((w64 (u1 - (w64 (u0.Add * u2)))).tdiv r171)).tdiv r261)) < 0)) && (decide ((w64 (x11.tdiv r216)) > 0)))) (by kernel_rfl) (.bool true) (by rw [hb495]); clear hF494
        have hF498 := hF497.setc (d := 120) (c := [4, 2]) (v := .int .i64 (w64 ((w64 ((w64 (u1 - (w64 (u0.Add * u2)))).tdiv r171)).tdiv r261))) (by kernel_rfl) (v' := .int .i64 (w64 ((w64 ((w64 (u1 - (w64 (u0.Add * u2)))).tdiv r171)).tdiv r261))) (by rw [hb495, hb406]; kernel_rfl); clear hF497
        have hF499 := hF498.setc (d := 121) (c := [4, 2]) (v := .int .i64 ((boundsS u0).1)) (by kernel_rfl) (v' := .int .i64 ((boundsS u0).1)) (by rw [hb495, hb406]; kernel_rfl); clear hF498
        have hF500 := hF499.setc (d := 122) (c := [4, 2]) (v := .int .i64 (w64 (x11.tdiv r216))) (by kernel_rfl) (v' := .int .i64 (w64 (x11.tdiv r216))) (by rw [hb495, hb406]; kernel_rfl); clear hF499
        have hc501 := hp496.1; have hp502 := hp496.2; clear hp496
        refine st hF500 (.int .i64 (w64 (((boundsS u0).1).tdiv (w64 (x11.tdiv r216))))) (by rw [wanted_of hF500 (b := true) rfl rfl (by kernel_rfl) (by kernel_rfl)]; rfl) rfl (by kernel_rfl) (quo_run hF500 (g := []) rfl (by kernel_rfl) (by kernel_rfl) hc501 rfl) ?_; intro a503 hF504; clear hF500
        refine st hF504 (.bool (decide ((w64 ((w64 ((w64 (u1 - (w64 (u0.Add * u2)))).tdiv r171)).tdiv r261)) < (w64 (((boundsS u0).1).tdiv (w64 (x11.tdiv r216))))))) (by rw [wanted_of hF504 (b := true) rfl rfl (by kernel_rfl) (by kernel_rfl)]; rfl) rfl (by kernel_rfl) (p0 hF504 (by kernel_rfl)) ?_; intro a505 hF506; clear hF504
        refine st hF506 (.bool (decide ((w64 ((w64 ((w64 (u1 - (w64 (u0.Add * u2)))).tdiv r171)).tdiv r261)) < (w64 (((boundsS u0).1).tdiv (w64 (x11.tdiv r216))))))) (by rw [wanted_of hF506 (b := false) rfl rfl (by kernel_rfl) (by kernel_rfl)]; rfl) rfl (by kernel_rfl) (p0 hF506 (by kernel_rfl)) ?_; intro a507 hF508; clear hF506
        refine s1 hF508 126 (.bool (decide ((w64 ((w64 ((w64 (u1 - (w64 (u0.Add * u2)))).tdiv r171)).tdiv r261)) < (w64 (((boundsS u0).1).tdiv (w64 (x11.tdiv r216))))))) ?_; intro a509 hF510; clear hF508
        refine s1 hF510 127 (.bool (decide ((w64 ((w64 ((w64 (u1 - (w64 (u0.Add * u2)))).tdiv r171)).tdiv r261)) < (w64 (((boundsS u0).1).tdiv (w64 (x11.tdiv r216))))))) ?_; intro a511 hF512; clear hF510
        have hF513 := hF512.atom ((decide ((w64 ((w64 ((w64 (u1 - (w64 (u0.Add * u2)))).tdiv r171)).tdiv r261)) < (w64 (((boundsS u0).1).tdiv (w64 (x11.tdiv r216)))))) == false) (by kernel_rfl); clear hF512
        refine gp hF513 128 5 [] (decide ((w64 ((w64 ((w64 (u1 - (w64 (u0.Add * u2)))).tdiv r171)).tdiv r261)) < (w64 (((boundsS u0).1).tdiv (w64 (x11.tdiv r216)))))) (.int .i64 (w64 ((w64 ((w64 (u1 - (w64 (u0.Add * u2)))).tdiv r171)).tdiv r261))) rfl rfl ?_; intro a514 hF515; clear hF513
        refine gp hF515 129 5 [] (decide ((w64 ((w64 ((w64 (u1 - (w64 (u0.Add * u2)))).tdiv r171)).tdiv r261)) < (w64 (((boundsS u0).1).tdiv (w64 (x11.tdiv r216)))))) (.bool (decide ((w64 ((w64 ((w64 (u1 - (w64 (u0.Add * u2)))).tdiv r171)).tdiv r261)) > 0))) rfl rfl ?_; intro a516 hF517; clear hF515
        refine gp hF517 130 5 [] (decide ((w64 ((w64 ((w64 (u1 - (w64 (u0.Add * u2)))).tdiv r171)).tdiv r261)) < (w64 (((boundsS u0).1).tdiv (w64 (x11.tdiv r216)))))) (.bool (decide ((w64 ((w64 ((w64 (u1 - (w64 (u0.Add * u2)))).tdiv r171)).tdiv r261)) > 0))) rfl rfl ?_; intro a518 hF519; clear hF517
        refine gp hF519 131 0 [5] (decide ((w64 ((w64 ((w64 (u1 - (w64 (u0.Add * u2)))).tdiv r171)).tdiv r261)) > 0)) (.int .i64 (w64 (x11.tdiv r216))) rfl rfl ?_; intro a520 hF521; clear hF519
        refine gp hF521 132 0 [5] (decide ((w64 ((w64 ((w64 (u1 - (w64 (u0.Add * u2)))).tdiv r171)).tdiv r261)) > 0)) (.bool (decide ((w64 (x11.tdiv r216)) < 0))) rfl rfl ?_; intro a522 hF523; clear hF521
        refine gd hF523 (.bool ((decide ((w64 ((w64 ((w64 (u1 - (w64 (u0.Add * u2)))).tdiv r171)).tdiv r261)) > 0)) && (decide ((w64 (x11.tdiv r216)) < 0)))) (m := 5) (cj := []) (bj := decide ((w64 ((w64 ((w64 (u1 - (w64 (u0.Add * u2)))).tdiv r171)).tdiv r261)) < (w64 (((boundsS u0).1).tdiv (w64 (x11.tdiv r216)))))) rfl rfl (by kernel_rfl) rfl (by kernel_rfl) (by kernel_rfl) (by kernel_rfl) (fun hg => pk_and hF523 (g := [5]) (m := 0) (b := decide ((w64 ((w64 ((w64 (u1 - (w64 (u0.Add * u2)))).tdiv r171)).tdiv r261)) > 0)) (v := decide ((w64 (x11.tdiv r216)) < 0)) rfl (by kernel_rfl) (by kernel_rfl) (by kernel_rfl) hg) ?_; intro a524 hF525; clear hF523
        refine gp hF525 134 5 [] (decide ((w64 ((w64 ((w64 (u1 - (w64 (u0.Add * u2)))).tdiv r171)).tdiv r261)) < (w64 (((boundsS u0).1).tdiv (w64 (x11.tdiv r216)))))) (.bool ((decide ((w64 ((w64 ((w64 (u1 - (w64 (u0.Add * u2)))).tdiv r171)).tdiv r261)) > 0)) && (decide ((w64 (x11.tdiv r216)) < 0)))) rfl rfl ?_; intro a526 hF527; clear hF525
        have hF528 := hF527.atom (((decide ((w64 ((w64 ((w64 (u1 - (w64 (u0.Add * u2)))).tdiv r171)).tdiv r261)) > 0)) && (decide ((w64 (x11.tdiv r216)) < 0))) == true) (by kernel_rfl); clear hF527
        refine gp hF528 135 6 [5] ((decide ((w64 ((w64 ((w64 (u1 - (w64 (u0.Add * u2)))).tdiv r171)).tdiv r261)) > 0)) && (decide ((w64 (x11.tdiv r216)) < 0))) (.int .i64 (w64 ((w64 ((w64 (u1 - (w64 (u0.Add * u2)))).tdiv r171)).tdiv r261))) rfl rfl ?_; intro a529 hF530; clear hF528
        refine gp hF530 136 6 [5] ((decide ((w64 ((w64 ((w64 (u1 - (w64 (u0.Add * u2)))).tdiv r171)).tdiv r261)) > 0)) && (decide ((w64 (x11.tdiv r216)) < 0))) (.int .i64 ((boundsS u0).1)) rfl rfl ?_; intro a531 hF532; clear hF530
        refine gp hF532 137 6 [5] ((decide ((w64 ((w64 ((w64 (u1 - (w64 (u0.Add * u2)))).tdiv r171)).tdiv r261)) > 0)) && (decide ((w64 (x11.tdiv r216)) < 0))) (.int .i64 (w64 (x11.tdiv r216))) rfl rfl ?_; intro a533 hF534; clear hF532
        rcases Bool.eq_false_or_eq_true (decide ((w64 ((w64 ((w64 (u1 - (w64 (u0.Add * u2)))).tdiv r171)).tdiv r261)) < (w64 (((boundsS u0).1).tdiv (w64 (x11.tdiv r216)))))) with hb535 | hb535
        ·
         have hp536 := hp502.1 hb535; clear hp502
         have hF537 := hF534.reval (d := 127) (c := []) (v := .bool (decide ((w64 ((w64 ((w64 (u1 - (w64 (u0.Add * u2)))).tdiv r171)).tdiv r261)) < (w64 (((boundsS u0).1).tdiv (w64 (x11.tdiv r216))))))) (by kernel_rfl) (.bool true) (by rw [hb535]); clear hF534
         have hF538 := hF537.setc (d := 128) (c := [5]) (v := .int .i64 (w64 ((w64 ((w64 (u1 - (w64 (u0.Add * u2)))).tdiv r171)).tdiv r261))) (by kernel_rfl) (v' := undef) (by rw [hb535]; kernel_rfl); clear hF537
         have hF539 := hF538.setc (d := 129) (c := [5]) (v := .bool (decide ((w64 ((w64 ((w64 (u1 - (w64 (u0.Add * u2)))).tdiv r171)).tdiv r261)) > 0))) (by kernel_rfl) (v' := undef) (by rw [hb535]; kernel_rfl); clear hF538
         have hF540 := hF539.setc (d := 130) (c := [5]) (v := .bool (decide ((w64 ((w64 ((w64 (u1 - (w64 (u0.Add * u2)))).tdiv r171)).tdiv r261)) > 0))) (by kernel_rfl) (v' := undef) (by rw [hb535]; kernel_rfl); clear hF539
         have hF541 := hF540.setc (d := 133) (c := [5]) (v := .bool ((decide ((w64 ((w64 ((w64 (u1 - (w64 (u0.Add * u2)))).tdiv r171)).tdiv r261)) > 0)) && (decide ((w64 (x11.tdiv r216)) < 0)))) (by kernel_rfl) (v' := undef) (by rw [hb535]; kernel_rfl); clear hF540
         have hF542 := hF541.setc (d := 134) (c := [5]) (v := .bool ((decide ((w64 ((w64 ((w64 (u1 - (w64 (u0.Add * u2)))).tdiv r171)).tdiv r261)) > 0)) && (decide ((w64 (x11.tdiv r216)) < 0)))) (by kernel_rfl) (v' := undef) (by rw [hb535]; kernel_rfl); clear hF541
         refine sku hF542 rfl rfl (by kernel_rfl) (by kernel_rfl) rfl (by kernel_rfl) ?_; intro a543 hF544; clear hF542
         refine sku hF544 rfl rfl (by kernel_rfl) (by kernel_rfl) rfl (by kernel_rfl) ?_; intro a545 hF546; clear hF544
         refine sk hF546 (b := true) rfl rfl (by kernel_rfl) (by kernel_rfl) rfl rfl (by kernel_rfl) ?_; intro a547 hF548; clear hF546
         refine s1 hF548 141 (.bool true) ?_; intro a549 hF550; clear hF548
         refine s1 hF550 142 (.bool true) ?_; intro a551 hF552; clear hF550
         refine sk hF552 (b := true) rfl rfl (by kernel_rfl) (by kernel_rfl) rfl rfl (by kernel_rfl) ?_; intro a553 hF554; clear hF552
         refine sk hF554 (b := true) rfl rfl (by kernel_rfl) (by kernel_rfl) rfl rfl (by kernel_rfl) ?_; intro a555 hF556; clear hF554
         refine sk hF556 (b := true) rfl rfl (by kernel_rfl) (by kernel_rfl) rfl rfl (by kernel_rfl) ?_; intro a557 hF558; clear hF556
         refine sku hF558 rfl rfl (by kernel_rfl) (by kernel_rfl) rfl (by kernel_rfl) ?_; intro a559 hF560; clear hF558
         refine sku hF560 rfl rfl (by kernel_rfl) (by kernel_rfl) rfl (by kernel_rfl) ?_; intro a561 hF562; clear hF560
         refine sk hF562 (b := true) rfl rfl (by kernel_rfl) (by kernel_rfl) rfl rfl (by kernel_rfl) ?_; intro a563 hF564; clear hF562
         refine sk hF564 (b := true) rfl rfl (by kernel_rfl) (by kernel_rfl) rfl rfl (by kernel_rfl) ?_; intro a565 hF566; clear hF564
         refine sku hF566 rfl rfl (by kernel_rfl) (by kernel_rfl) rfl (by kernel_rfl) ?_; intro a567 hF568; clear hF566
         refine sku hF568 rfl rfl (by kernel_rfl) (by kernel_rfl) rfl (by kernel_rfl) ?_; intro a569 hF570; clear hF568
         refine sku hF570 rfl rfl (by kernel_rfl) (by kernel_rfl) rfl (by kernel_rfl) ?_; intro a571 hF572; clear hF570
         refine sku hF572 rfl rfl (by kernel_rfl) (by kernel_rfl) rfl (by kernel_rfl) ?_; intro a573 hF574; clear hF572
         refine sku hF574 rfl rfl (by kernel_rfl) (by kernel_rfl) rfl (by kernel_rfl) ?_; intro a575 hF576; clear hF574
         refine sk hF576 (b := true) rfl rfl (by kernel_rfl) (by kernel_rfl) rfl rfl (by kernel_rfl) ?_; intro a577 hF578; clear hF576
         refine s1 hF578 156 (.bool true) ?_; intro a579 hF580; clear hF578
         refine nlH (hQ344 _ _ ?_); clear hQ344 hQ344Q
         refine cdT hF580 (by kernel_rfl) ?_
         have hF581 : Fr 171 [] [] a579 := hF580.reg; clear hF580
         refine sqH ?_; intro hQ582Q hQ582
         refine s1 hF581 6 (.int .i64 0) ?_; intro a583 hF584; clear hF581
         refine s1 hF584 7 (.int .i64 3) ?_; intro a585 hF586; clear hF584
         refine nlH (hQ582 _ _ ?_); clear hQ582 hQ582Q
         refine wp_ret ?_
         refine thr ?_
         refine rt (fn := Tryd.f13) (v := .tuple #[.int .i64 0, .int .i64 3]) hF586 (re2 hF586 (fn := Tryd.f13) rfl (by kernel_rfl) (by kernel_rfl)) ?_
         exact ⟨(0, 3), rfl, hp536, hM333.below⟩
        ·
         have hp587 := hp502.2 hb535; clear hp502
         have hF588 := hF534.reval (d := 127) (c := []) (v := .bool (decide ((w64 ((w64 ((w64 (u1 - (w64 (u0.Add * u2)))).tdiv r171)).tdiv r261)) < (w64 (((boundsS u0).1).tdiv (w64 (x11.tdiv r216))))))) (by kernel_rfl) (.bool false) (by rw [hb535]); clear hF534
         have hF589 := hF588.setc (d := 128) (c := [5]) (v := .int .i64 (w64 ((w64 ((w64 (u1 - (w64 (u0.Add * u2)))).tdiv r171)).tdiv r261))) (by kernel_rfl) (v' := .int .i64 (w64 ((w64 ((w64 (u1 - (w64 (u0.Add * u2)))).tdiv r171)).tdiv r261))) (by rw [hb535]; kernel_rfl); clear hF588
         have hF590 := hF589.setc (d := 129) (c := [5]) (v := .bool (decide ((w64 ((w64 ((w64 (u1 - (w64 (u0.Add * u2)))).tdiv r171)).tdiv r261)) > 0))) (by kernel_rfl) (v' := .bool (decide ((w64 ((w64 ((w64 (u1 - (w64 (u0.Add * u2)))).tdiv r171)).tdiv r261)) > 0))) (by rw [hb535]; kernel_rfl); clear hF589
         have hF591 := hF590.setc (d := 130) (c := [5]) (v := .bool (decide ((w64 ((w64 ((w64 (u1 - (w64 (u0.Add * u2)))).tdiv r171)).tdiv r261)) > 0))) (by kernel_rfl) (v' := .bool (decide ((w64 ((w64 ((w64 (u1 - (w64 (u0.Add * u2)))).tdiv r171)).tdiv r261)) > 0))) (by rw [hb535]; kernel_rfl); clear hF590
         have hF592 := hF591.setc (d := 133) (c := [5]) (v := .bool ((decide ((w64 ((w64 ((w64 (u1 - (w64 (u0.Add * u2)))).tdiv r171)).tdiv r261)) > 0)) && (decide ((w64 (x11.tdiv r216)) < 0)))) (by kernel_rfl) (v' := .bool ((decide ((w64 ((w64 ((w64 (u1 - (w64 (u0.Add * u2)))).tdiv r171)).tdiv r261)) > 0)) && (decide ((w64 (x11.tdiv r216)) < 0)))) (by rw [hb535]; kernel_rfl); clear hF591
         have hF593 := hF592.setc (d := 134) (c := [5]) (v := .bool ((decide ((w64 ((w64 ((w64 (u1 - (w64 (u0.Add * u2)))).tdiv r171)).tdiv r261)) > 0)) && (decide ((w64 (x11.tdiv r216)) < 0)))) (by kernel_rfl) (v' := .bool ((decide ((w64 ((w64 ((w64 (u1 - (w64 (u0.Add * u2)))).tdiv r171)).tdiv r261)) > 0)) && (decide ((w64 (x11.tdiv r216)) < 0)))) (by rw [hb535]; kernel_rfl); clear hF592
         rcases Bool.eq_false_or_eq_true ((decide ((w64 ((w64 ((w64 (u1 - (w64 (u0.Add * u2)))).tdiv r171)).tdiv r261)) > 0)) && (decide ((w64 (x11.tdiv r216)) < 0))) with hb594 | hb594
         ·
          have hp595 := hp587.1 hb594; clear hp587
          have hF596 := hF593.reval (d := 134) (c := []) (v := .bool ((decide ((w64 ((w64 ((w64 (u1 - (w64 (u0.Add * u2)))).tdiv r171)).tdiv r261)) > 0)) && (decide ((w64 (x11.tdiv r216)) < 0)))) (by kernel_rfl) (.bool true) (by rw [hb594]); clear hF593
          have hF597 := hF596.setc (d := 135) (c := [6, 5]) (v := .int .i64 (w64 ((w64 ((w64 (u1 - (w64 (u0.Add * u2)))).tdiv r171)).tdiv r261))) (by kernel_rfl) (v' := .int .i64 (w64 ((w64 ((w64 (u1 - (w64 (u0.Add * u2)))).tdiv r171)).tdiv r261))) (by rw [hb594, hb535]; kernel_rfl); clear hF596
          have hF598 := hF597.setc (d := 136) (c := [6, 5]) (v := .int .i64 ((boundsS u0).1)) (by kernel_rfl) (v' := .int .i64 ((boundsS u0).1)) (by rw [hb594, hb535]; kernel_rfl); clear hF597
          have hF599 := hF598.setc (d := 137) (c := [6, 5]) (v := .int .i64 (w64 (x11.tdiv r216))) (by kernel_rfl) (v' := .int .i64 (w64 (x11.tdiv r216))) (by rw [hb594, hb535]; kernel_rfl); clear hF598
          have hc600 := hp595.1; have hp601 := hp595.2; clear hp595
          refine st hF599 (.int .i64 (w64 (((boundsS u0).1).tdiv (w64 (x11.tdiv r216))))) (by rw [wanted_of hF599 (b := true) rfl rfl (by kernel_rfl) (by kernel_rfl)]; rfl) rfl (by kernel_rfl) (quo_run hF599 (g := []) rfl (by kernel_rfl) (by kernel_rfl) hc600 rfl) ?_; intro a602 hF603; clear hF599
          refine st hF603 (.bool (decide ((w64 ((w64 ((w64 (u1 - (w64 (u0.Add * u2)))).tdiv r171)).tdiv r261)) > (w64 (((boundsS u0).1).tdiv (w64 (x11.tdiv r216))))))) (by rw [wanted_of hF603 (b := true) rfl rfl (by kernel_rfl) (by kernel_rfl)]; rfl) rfl (by kernel_rfl) (p0 hF603 (by kernel_rfl)) ?_; intro a604 hF605; clear hF603
          refine st hF605 (.bool (decide ((w64 ((w64 ((w64 (u1 - (w64 (u0.Add * u2)))).tdiv r171)).tdiv r261)) > (w64 (((boundsS u0).1).tdiv (w64 (x11.tdiv r216))))))) (by rw [wanted_of hF605 (b := false) rfl rfl (by kernel_rfl) (by kernel_rfl)]; rfl) rfl (by kernel_rfl) (p0 hF605 (by kernel_rfl)) ?_; intro a606 hF607; clear hF605
          refine s1 hF607 141 (.bool (decide ((w64 ((w64 ((w64 (u1 - (w64 (u0.Add * u2)))).tdiv r171)).tdiv r261)) > (w64 (((boundsS u0).1).tdiv (w64 (x11.tdiv r216))))))) ?_; intro a608 hF609; clear hF607
          refine s1 hF609 142 (.bool (decide ((w64 ((w64 ((w64 (u1 - (w64 (u0.Add * u2)))).tdiv r171)).tdiv r261)) > (w64 (((boundsS u0).1).tdiv (w64 (x11.tdiv r216))))))) ?_; intro a610 hF611; clear hF609
          have hF612 := hF611.atom ((decide ((w64 ((w64 ((w64 (u1 - (w64 (u0.Add * u2)))).tdiv r171)).tdiv r261)) > (w64 (((boundsS u0).1).tdiv (w64 (x11.tdiv r216)))))) == false) (by kernel_rfl); clear hF611
          refine gp hF612 143 7 [] (decide ((w64 ((w64 ((w64 (u1 - (w64 (u0.Add * u2)))).tdiv r171)).tdiv r261)) > (w64 (((boundsS u0).1).tdiv (w64 (x11.tdiv r216)))))) (.int .i64 (w64 ((w64 ((w64 (u1 - (w64 (u0.Add * u2)))).tdiv r171)).tdiv r261))) rfl rfl ?_; intro a613 hF614; clear hF612
          refine gp hF614 144 7 [] (decide ((w64 ((w64 ((w64 (u1 - (w64 (u0.Add * u2)))).tdiv r171)).tdiv r261)) > (w64 (((boundsS u0).1).tdiv (w64 (x11.tdiv r216)))))) (.bool (decide ((w64 ((w64 ((w64 (u1 - (w64 (u0.Add * u2)))).tdiv r171)).tdiv r261)) < 0))) rfl rfl ?_; intro a615 hF616; clear hF614
          refine gp hF616 145 7 [] (decide ((w64 ((w64 ((w64 (u1 - (w64 (u0.Add * u2)))).tdiv r171)).tdiv r261)) > (w64 (((boundsS u0).1).tdiv (w64 (x11.tdiv r216)))))) (.bool (decide ((w64 ((w64 ((w64 (u1 - (w64 (u0.Add * u2)))).tdiv r171)).tdiv r261)) < 0))) rfl rfl ?_; intro a617 hF618; clear hF616
          refine gp hF618 146 3 [7] (decide ((w64 ((w64 ((w64 (u1 - (w64 (u0.Add * u2)))).tdiv r171)).tdiv r261)) < 0)) (.int .i64 (w64 (x11.tdiv r216))) rfl rfl ?_; intro a619 hF620; clear hF618
          refine gp hF620 147 3 [7] (decide ((w64 ((w64 ((w64 (u1 - (w64 (u0.Add * u2)))).tdiv r171)).tdiv r261)) < 0)) (.bool (decide ((w64 (x11.tdiv r216)) < 0))) rfl rfl ?_; intro a621 hF622; clear hF620
          refine gd hF622 (.bool ((decide ((w64 ((w64 ((w64 (u1 - (w64 (u0.Add * u2)))).tdiv r171)).tdiv r261)) < 0)) && (decide ((w64 (x11.tdiv r216)) < 0)))) (m := 7) (cj := []) (bj := decide ((w64 ((w64 ((w64 (u1 - (w64 (u0.Add * u2)))).tdiv r171)).tdiv r261)) > (w64 (((boundsS u0).1).tdiv (w64 (x11.tdiv r216)))))) rfl rfl (by kernel_rfl) rfl (by kernel_rfl) (by kernel_rfl) (by kernel_rfl) (fun hg => pk_and hF622 (g := [7]) (m := 3) (b := decide ((w64 ((w64 ((w64 (u1 - (w64 (u0.Add * u2)))).tdiv r171)).tdiv r261)) < 0)) (v := decide ((w64 (x11.tdiv r216)) < 0)) rfl (by kernel_rfl) (by kernel_rfl) (by kernel_rfl) hg) ?_; intro a623 hF624; clear hF622
          refine gp hF624 149 7 [] (decide ((w64 ((w64 ((w64 (u1 - (w64 (u0.Add * u2)))).tdiv r171)).tdiv r261)) > (w64 (((boundsS u0).1).tdiv (w64 (x11.tdiv r216)))))) (.bool ((decide ((w64 ((w64 ((w64 (u1 - (w64 (u0.Add * u2)))).tdiv r171)).tdiv r261)) < 0)) && (decide ((w64 (x11.tdiv r216)) < 0)))) rfl rfl ?_; intro a625 hF626; clear hF624
          have hF627 := hF626.atom (((decide ((w64 ((w64 ((w64 (u1 - (w64 (u0.Add * u2)))).tdiv r171)).tdiv r261)) < 0)) && (decide ((w64 (x11.tdiv r216)) < 0))) == true) (by kernel_rfl); clear hF626
          refine gp hF627 150 8 [7] ((decide ((w64 ((w64 ((w64 (u1 - (w64 (u0.Add * u2)))).tdiv r171)).tdiv r261)) < 0)) && (decide ((w64 (x11.tdiv r216)) < 0))) (.int .i64 (w64 ((w64 ((w64 (u1 - (w64 (u0.Add * u2)))).tdiv r171)).tdiv r261))) rfl rfl ?_; intro a628 hF629; clear hF627
          refine gp hF629 151 8 [7] ((decide ((w64 ((w64 ((w64 (u1 - (w64 (u0.Add * u2)))).tdiv r171)).tdiv r261)) < 0)) && (decide ((w64 (x11.tdiv r216)) < 0))) (.int .i64 ((boundsS u0).2)) rfl rfl ?_; intro a630 hF631; clear hF629
          refine gp hF631 152 8 [7] ((decide ((w64 ((w64 ((w64 (u1 - (w64 (u0.Add * u2)))).tdiv r171)).tdiv r261)) < 0)) && (decide ((w64 (x11.tdiv r216)) < 0))) (.int .i64 (w64 (x11.tdiv r216))) rfl rfl ?_; intro a632 hF633; clear hF631
          rcases Bool.eq_false_or_eq_true (decide ((w64 ((w64 ((w64 (u1 - (w64 (u0.Add * u2)))).tdiv r171)).tdiv r261)) > (w64 (((boundsS u0).1).tdiv (w64 (x11.tdiv r216)))))) with hb634 | hb634
          ·
           have hp635 := hp601.1 hb634; clear hp601
           have hF636 := hF633.reval (d := 142) (c := []) (v := .bool (decide ((w64 ((w64 ((w64 (u1 - (w64 (u0.Add * u2)))).tdiv r171)).tdiv r261)) > (w64 (((boundsS u0).1).tdiv (w64 (x11.tdiv r216))))))) (by kernel_rfl) (.bool true) (by rw [hb634]); clear hF633
           have hF637 := hF636.setc (d := 143) (c := [7]) (v := .int .i64 (w64 ((w64 ((w64 (u1 - (w64 (u0.Add * u2)))).tdiv r171)).tdiv r261))) (by kernel_rfl) (v' := undef) (by rw [hb634]; kernel_rfl); clear hF636
           have hF638 := hF637.setc (d := 144) (c := [7]) (v := .bool (decide ((w64 ((w64 ((w64 (u1 - (w64 (u0.Add * u2)))).tdiv r171)).tdiv r261)) < 0))) (by kernel_rfl) (v' := undef) (by rw [hb634]; kernel_rfl); clear hF637
           have hF639 := hF638.setc (d := 145) (c := [7]) (v := .bool (decide ((w64 ((w64 ((w64 (u1 - (w64 (u0.Add * u2)))).tdiv r171)).tdiv r261)) < 0))) (by kernel_rfl) (v' := undef) (by rw [hb634]; kernel_rfl); clear hF638
           have hF640 := hF639.setc (d := 148) (c := [7]) (v := .bool ((decide ((w64 ((w64 ((w64 (u1 - (w64 (u0.Add * u2)))).tdiv r171)).tdiv r261)) < 0)) && (decide ((w64 (x11.tdiv r216)) < 0)))) (by kernel_rfl) (v' := undef) (by rw [hb634]; kernel_rfl); clear hF639
           have hF641 := hF640.setc (d := 149) (c := [7]) (v := .bool ((decide ((w64 ((w64 ((w64 (u1 - (w64 (u0.Add * u2)))).tdiv r171)).tdiv r261)) < 0)) && (decide ((w64 (x11.tdiv r216)) < 0)))) (by kernel_rfl) (v' := undef) (by rw [hb634]; kernel_rfl); clear hF640
           refine sku hF641 rfl rfl (by kernel_rfl) (by kernel_rfl) rfl (by kernel_rfl) ?_; intro a642 hF643; clear hF641
           refine sku hF643 rfl rfl (by kernel_rfl) (by kernel_rfl) rfl (by kernel_rfl) ?_; intro a644 hF645; clear hF643
           refine sk hF645 (b := true) rfl rfl (by kernel_rfl) (by kernel_rfl) rfl rfl (by kernel_rfl) ?_; intro a646 hF647; clear hF645
           refine s1 hF647 156 (.bool true) ?_; intro a648 hF649; clear hF647
           refine nlH (hQ344 _ _ ?_); clear hQ344 hQ344Q
           refine cdT hF649 (by kernel_rfl) ?_
           have hF650 : Fr 171 [] [] a648 := hF649.reg; clear hF649
           refine sqH ?_; intro hQ651Q hQ651
           refine s1 hF650 6 (.int .i64 0) ?_; intro a652 hF653; clear hF650
           refine s1 hF653 7 (.int .i64 3) ?_; intro a654 hF655; clear hF653
           refine nlH (hQ651 _ _ ?_); clear hQ651 hQ651Q
           refine wp_ret ?_
           refine thr ?_
           refine rt (fn := Tryd.f13) (v := .tuple #[.int .i64 0, .int .i64 3]) hF655 (re2 hF655 (fn := Tryd.f13) rfl (by kernel_rfl) (by kernel_rfl)) ?_
           exact ⟨(0, 3), rfl, hp635, hM333.below⟩
          ·
           have hp656 := hp601.2 hb634; clear hp601
           have hF657 := hF633.reval (d := 142) (c := []) (v := .bool (decide ((w64 ((w64 ((w64 (u1 - (w64 (u0.Add * u2)))).tdiv r171)).tdiv r261)) > (w64 (((boundsS u0).1).tdiv (w64 (x11.tdiv r216))))))) (by kernel_rfl) (.bool false) (by rw [hb634]); clear hF633
           have hF658 := hF657.setc (d := 143) (c := [7]) (v := .int .i64 (w64 ((w64 ((w64 (u1 - (w64 (u0.Add * u2)))).tdiv r171)).tdiv r261))) (by kernel_rfl) (v' := .int .i64 (w64 ((w64 ((w64 (u1 - (w64 (u0.Add * u2)))).tdiv r171)).tdiv r261))) (by rw [hb634]; kernel_rfl); clear hF657
           have hF659 := hF658.setc (d := 144) (c := [7]) (v := .bool (decide ((w64 ((w64 ((w64 (u1 - (w64 (u0.Add * u2)))).tdiv r171)).tdiv r261)) < 0))) (by kernel_rfl) (v' := .bool (decide ((w64 ((w64 ((w64 (u1 - (w64 (u0.Add * u2)))).tdiv r171)).tdiv r261)) < 0))) (by rw [hb634]; kernel_rfl); clear hF658
           have hF660 := hF659.setc (d := 145) (c := [7]) (v := .bool (decide ((w64 ((w64 ((w64 (u1 - (w64 (u0.Add * u2)))).tdiv r171)).tdiv r261)) < 0))) (by kernel_rfl) (v' := .bool (decide ((w64 ((w64 ((w64 (u1 - (w64 (u0.Add * u2)))).tdiv r171)).tdiv r261)) < 0))) (by rw [hb634]; kernel_rfl); clear hF659
           have hF661 := hF660.setc (d := 148) (c := [7]) (v := .bool ((decide ((w64 ((w64 ((w64 (u1 - (w64 (u0.Add * u2)))).tdiv r171)).tdiv r261)) < 0)) && (decide ((w64 (x11.tdiv r216)) < 0)))) (by kernel_rfl) (v' := .bool ((decide ((w64 ((w64 ((w64 (u1 - (w64 (u0.Add * u2)))).tdiv r171)).tdiv r261)) < 0)) && (decide ((w64 (x11.tdiv r216)) < 0)))) (by rw [hb634]; kernel_rfl); clear hF660
           have hF662 := hF661.setc (d := 149) (c := [7]) (v := .bool ((decide ((w64 ((w64 ((w64 (u1 - (w64 (u0.Add * u2)))).tdiv r171)).tdiv r261)) < 0)) && (decide ((w64 (x11.tdiv r216)) < 0)))) (by kernel_rfl) (v' := .bool ((decide ((w64 ((w64 ((w64 (u1 - (w64 (u0.Add * u2)))).tdiv r171)).tdiv r261)) < 0)) && (decide ((w64 (x11.tdiv r216)) < 0)))) (by rw [hb634]; kernel_rfl); clear hF661
           rcases Bool.eq_false_or_eq_true ((decide ((w64 ((w64 ((w64 (u1 - (w64 (u0.Add * u2)))).tdiv r171)).tdiv r261)) < 0)) && (decide ((w64 (x11.tdiv r216)) < 0))) with hb663 | hb663
           ·
            have hp664 := hp656.1 hb663; clear hp656
            have hF665 := hF662.reval (d := 149) (c := []) (v := .bool ((decide ((w64 ((w64 ((w64 (u1 - (w64 (u0.Add * u2)))).tdiv r171)).tdiv r261)) < 0)) && (decide ((w64 (x11.tdiv r216)) < 0)))) (by kernel_rfl) (.bool true) (by rw [hb663]); clear hF662
            have hF666 := hF665.setc (d := 150) (c := [8, 7]) (v := .int .i64 (w64 ((w64 ((w64 (u1 - (w64 (u0.Add * u2)))).tdiv r171)).tdiv r261))) (by kernel_rfl) (v' := .int .i64 (w64 ((w64 ((w64 (u1 - (w64 (u0.Add * u2)))).tdiv r171)).tdiv r261))) (by rw [hb663, hb634]; kernel_rfl); clear hF665
            have hF667 := hF666.setc (d := 151) (c := [8, 7]) (v := .int .i64 ((boundsS u0).2)) (by kernel_rfl) (v' := .int .i64 ((boundsS u0).2)) (by rw [hb663, hb634]; kernel_rfl); clear hF666
            have hF668 := hF667.setc (d := 152) (c := [8, 7]) (v := .int .i64 (w64 (x11.tdiv r216))) (by kernel_rfl) (v' := .int .i64 (w64 (x11.tdiv r216))) (by rw [hb663, hb634]; kernel_rfl); clear hF667
            have hc669 := hp664.1; have hp670 := hp664.2; clear hp664
            refine st hF668 (.int .i64 (w64 (((boundsS u0).2).tdiv (w64 (x11.tdiv r216))))) (by rw [wanted_of hF668 (b := true) rfl rfl (by kernel_rfl) (by kernel_rfl)]; rfl) rfl (by kernel_rfl) (quo_run hF668 (g := []) rfl (by kernel_rfl) (by kernel_rfl) hc669 rfl) ?_; intro a671 hF672; clear hF668
            refine st hF672 (.bool (decide ((w64 ((w64 ((w64 (u1 - (w64 (u0.Add * u2)))).tdiv r171)).tdiv r261)) < (w64 (((boundsS u0).2).tdiv (w64 (x11.tdiv r216))))))) (by rw [wanted_of hF672 (b := true) rfl rfl (by kernel_rfl) (by kernel_rfl)]; rfl) rfl (by kernel_rfl) (p0 hF672 (by kernel_rfl)) ?_; intro a673 hF674; clear hF672
            refine st hF674 (.bool (decide ((w64 ((w64 ((w64 (u1 - (w64 (u0.Add * u2)))).tdiv r171)).tdiv r261)) < (w64 (((boundsS u0).2).tdiv (w64 (x11.tdiv r216))))))) (by rw [wanted_of hF674 (b := false) rfl rfl (by kernel_rfl) (by kernel_rfl)]; rfl) rfl (by kernel_rfl) (p0 hF674 (by kernel_rfl)) ?_; intro a675 hF676; clear hF674
            refine s1 hF676 156 (.bool (decide ((w64 ((w64 ((w64 (u1 - (w64 (u0.Add * u2)))).tdiv r171)).tdiv r261)) < (w64 (((boundsS u0).2).tdiv (w64 (x11.tdiv r216))))))) ?_; intro a677 hF678; clear hF676
            refine nlH (hQ344 _ _ ?_); clear hQ344 hQ344Q
            refine cd hF678 (t := decide ((w64 ((w64 ((w64 (u1 - (w64 (u0.Add * u2)))).tdiv r171)).tdiv r261)) < (w64 (((boundsS u0).2).tdiv (w64 (x11.tdiv r216)))))) (by kernel_rfl) (fun hb679 => ?_) (fun hb679 => ?_)
            ·
             have hp680 := hp670.1 hb679; clear hp670
             have hF681 : Fr 171 [] [] a677 := hF678.reg; clear hF678
             refine sqH ?_; intro hQ682Q hQ682
             refine s1 hF681 6 (.int .i64 0) ?_; intro a683 hF684; clear hF681
             refine s1 hF684 7 (.int .i64 3) ?_; intro a685 hF686; clear hF684
             refine nlH (hQ682 _ _ ?_); clear hQ682 hQ682Q
             refine wp_ret ?_
             refine thr ?_
             refine rt (fn := Tryd.f13) (v := .tuple #[.int .i64 0, .int .i64 3]) hF686 (re2 hF686 (fn := Tryd.f13) rfl (by kernel_rfl) (by kernel_rfl)) ?_
             exact ⟨(0, 3), rfl, hp680, hM333.below⟩
            ·
             have hp687 := hp670.2 hb679; clear hp670
             refine wp_skip ?_
             refine thn ?_
             refine wp_seq ?_
             have hF688 : Fr 171 [] [⟨9, [], .int .i64 (w64 ((w64 ((w64 (u1 - (w64 (u0.Add * u2)))).tdiv r171)).tdiv r261))⟩, ⟨11, [], .int .i64 (w64 (x11.tdiv r216))⟩, ⟨14, [], .int .i64 ((boundsS u0).1)⟩, ⟨15, [], .int .i64 ((boundsS u0).2)⟩] a677 := hF678.reg; clear hF678
             refine sqH ?_; intro hQ689Q hQ689
             refine s1 hF688 157 (.int .i64 (w64 ((w64 ((w64 (u1 - (w64 (u0.Add * u2)))).tdiv r171)).tdiv r261))) ?_; intro a690 hF691; clear hF688
             refine s1 hF691 158 (.int .i64 (w64 (x11.tdiv r216))) ?_; intro a692 hF693; clear hF691
             refine s1 hF693 159 (.int .i64 (w64 ((w64 ((w64 ((w64 (u1 - (w64 (u0.Add * u2)))).tdiv r171)).tdiv r261)) * (w64 (x11.tdiv r216))))) ?_; intro a694 hF695; clear hF693
             refine s1 hF695 16 (.int .i64 (w64 ((w64 ((w64 ((w64 (u1 - (w64 (u0.Add * u2)))).tdiv r171)).tdiv r261)) * (w64 (x11.tdiv r216))))) ?_; intro a696 hF697; clear hF695
             refine nlH (hQ689 _ _ ?_); clear hQ689 hQ689Q
             refine sqH ?_; intro hQ698Q hQ698
             refine s1 hF697 160 (.int .i64 (w64 ((w64 ((w64 ((w64 (u1 - (w64 (u0.Add * u2)))).tdiv r171)).tdiv r261)) * (w64 (x11.tdiv r216))))) ?_; intro a699 hF700; clear hF697
             refine s1 hF700 161 (.int .i64 ((boundsS u0).1)) ?_; intro a701 hF702; clear hF700
             refine s1 hF702 162 (.bool (decide ((w64 ((w64 ((w64 ((w64 (u1 - (w64 (u0.Add * u2)))).tdiv r171)).tdiv r261)) * (w64 (x11.tdiv r216)))) < ((boundsS u0).1)))) ?_; intro a703 hF704; clear hF702
             refine s1 hF704 163 (.bool (decide ((w64 ((w64 ((w64 ((w64 (u1 - (w64 (u0.Add * u2)))).tdiv r171)).tdiv r261)) * (w64 (x11.tdiv r216)))) < ((boundsS u0).1)))) ?_; intro a705 hF706; clear hF704
             have hF707 := hF706.atom ((decide ((w64 ((w64 ((w64 ((w64 (u1 - (w64 (u0.Add * u2)))).tdiv r171)).tdiv r261)) * (w64 (x11.tdiv r216)))) < ((boundsS u0).1))) == false) (by kernel_rfl); clear hF706
             refine gp hF707 164 0 [] (decide ((w64 ((w64 ((w64 ((w64 (u1 - (w64 (u0.Add * u2)))).tdiv r171)).tdiv r261)) * (w64 (x11.tdiv r216)))) < ((boundsS u0).1))) (.int .i64 (w64 ((w64 ((w64 ((w64 (u1 - (w64 (u0.Add * u2)))).tdiv r171)).tdiv r261)) * (w64 (x11.tdiv r216))))) rfl rfl ?_; intro a708 hF709; clear hF707
             refine gp hF709 165 0 [] (decide ((w64 ((w64 ((w64 ((w64 (u1 - (w64 (u0.Add * u2)))).tdiv r171)).tdiv r261)) * (w64 (x11.tdiv r216)))) < ((boundsS u0).1))) (.int .i64 ((boundsS u0).2)) rfl rfl ?_; intro a710 hF711; clear hF709
             refine gp hF711 166 0 [] (decide ((w64 ((w64 ((w64 ((w64 (u1 - (w64 (u0.Add * u2)))).tdiv r171)).tdiv r261)) * (w64 (x11.tdiv r216)))) < ((boundsS u0).1))) (.bool (decide ((w64 ((w64 ((w64 ((w64 (u1 - (w64 (u0.Add * u2)))).tdiv r171)).tdiv r261)) * (w64 (x11.tdiv r216)))) > ((boundsS u0).2)))) rfl rfl ?_; intro a712 hF713; clear hF711
             refine st hF713 (.bool ((decide ((w64 ((w64 ((w64 ((w64 (u1 - (w64 (u0.Add * u2)))).tdiv r171)).tdiv r261)) * (w64 (x11.tdiv r216)))) < ((boundsS u0).1))) || (decide ((w64 ((w64 ((w64 ((w64 (u1 - (w64 (u0.Add * u2)))).tdiv r171)).tdiv r261)) * (w64 (x11.tdiv r216)))) > ((boundsS u0).2))))) (nog rfl _) rfl (by kernel_rfl) (pk_or hF713 (g := []) (m := 0) (b := decide ((w64 ((w64 ((w64 ((w64 (u1 - (w64 (u0.Add * u2)))).tdiv r171)).tdiv r261)) * (w64 (x11.tdiv r216)))) < ((boundsS u0).1))) (v := decide ((w64 ((w64 ((w64 ((w64 (u1 - (w64 (u0.Add * u2)))).tdiv r171)).tdiv r261)) * (w64 (x11.tdiv r216)))) > ((boundsS u0).2))) rfl (by kernel_rfl) (by kernel_rfl) (by kernel_rfl) rfl) ?_; intro a714 hF715; clear hF713
             refine nlH (hQ698 _ _ ?_); clear hQ698 hQ698Q
             refine cd hF715 (t := (decide ((w64 ((w64 ((w64 ((w64 (u1 - (w64 (u0.Add * u2)))).tdiv r171)).tdiv r261)) * (w64 (x11.tdiv r216)))) < ((boundsS u0).1))) || (decide ((w64 ((w64 ((w64 ((w64 (u1 - (w64 (u0.Add * u2)))).tdiv r171)).tdiv r261)) * (w64 (x11.tdiv r216)))) > ((boundsS u0).2)))) (by kernel_rfl) (fun hb716 => ?_) (fun hb716 => ?_)
             ·
              have hp717 := hp687.1 hb716; clear hp687
              have hF718 : Fr 171 [] [] a714 := hF715.reg; clear hF715
              refine sqH ?_; intro hQ719Q hQ719
              refine s1 hF718 6 (.int .i64 0) ?_; intro a720 hF721; clear hF718
              refine s1 hF721 7 (.int .i64 3) ?_; intro a722 hF723; clear hF721
              refine nlH (hQ719 _ _ ?_); clear hQ719 hQ719Q
              refine wp_ret ?_
              refine thr ?_
              refine rt (fn := Tryd.f13) (v := .tuple #[.int .i64 0, .int .i64 3]) hF723 (re2 hF723 (fn := Tryd.f13) rfl (by kernel_rfl) (by kernel_rfl)) ?_
              exact ⟨(0, 3), rfl, hp717, hM333.below⟩
             ·
              have hp724 := hp687.2 hb716; clear hp687
              refine wp_skip ?_
              refine thn ?_
              have hF725 : Fr 171 [] [⟨9, [], .int .i64 (w64 ((w64 ((w64 (u1 - (w64 (u0.Add * u2)))).tdiv r171)).tdiv r261))⟩, ⟨11, [], .int .i64 (w64 (x11.tdiv r216))⟩] a714 := hF715.reg; clear hF715
              refine sqH ?_; intro hQ726Q hQ726
              refine s1 hF725 168 (.int .i64 (w64 ((w64 ((w64 (u1 - (w64 (u0.Add * u2)))).tdiv r171)).tdiv r261))) ?_; intro a727 hF728; clear hF725
              refine s1 hF728 169 (.int .i64 (w64 (x11.tdiv r216))) ?_; intro a729 hF730; clear hF728
              refine s1 hF730 170 (.int .i64 (w64 ((w64 ((w64 ((w64 (u1 - (w64 (u0.Add * u2)))).tdiv r171)).tdiv r261)) * (w64 (x11.tdiv r216))))) ?_; intro a731 hF732; clear hF730
              refine s1 hF732 6 (.int .i64 (w64 ((w64 ((w64 ((w64 (u1 - (w64 (u0.Add * u2)))).tdiv r171)).tdiv r261)) * (w64 (x11.tdiv r216))))) ?_; intro a733 hF734; clear hF732
              refine s1 hF734 7 (.int .i64 0) ?_; intro a735 hF736; clear hF734
              refine nlH (hQ726 _ _ ?_); clear hQ726 hQ726Q
              refine wp_ret ?_
              refine rt (fn := Tryd.f13) (v := .tuple #[.int .i64 (w64 ((w64 ((w64 ((w64 (u1 - (w64 (u0.Add * u2)))).tdiv r171)).tdiv r261)) * (w64 (x11.tdiv r216)))), .int .i64 0]) hF736 (re2 hF736 (fn := Tryd.f13) rfl (by kernel_rfl) (by kernel_rfl)) ?_
              exact ⟨(w64 ((w64 ((w64 ((w64 (u1 - (w64 (u0.Add * u2)))).tdiv r171)).tdiv r261)) * (w64 (x11.tdiv r216))), 0), rfl, hp724, hM333.below⟩
           ·
            have hp737 := hp656.2 hb663; clear hp656
            have hF738 := hF662.reval (d := 149) (c := []) (v := .bool ((decide ((w64 ((w64 ((w64 (u1 - (w64 (u0.Add * u2)))).tdiv r171)).tdiv r261)) < 0)) && (decide ((w64 (x11.tdiv r216)) < 0)))) (by kernel_rfl) (.bool false) (by rw [hb663]); clear hF662
            have hF739 := hF738.setc (d := 150) (c := [8, 7]) (v := .int .i64 (w64 ((w64 ((w64 (u1 - (w64 (u0.Add * u2)))).tdiv r171)).tdiv r261))) (by kernel_rfl) (v' := undef) (by rw [hb663, hb634]; kernel_rfl); clear hF738
            have hF740 := hF739.setc (d := 151) (c := [8, 7]) (v := .int .i64 ((boundsS u0).2)) (by kernel_rfl) (v' := undef) (by rw [hb663, hb634]; kernel_rfl); clear hF739
            have hF741 := hF740.setc (d := 152) (c := [8, 7]) (v := .int .i64 (w64 (x11.tdiv r216))) (by kernel_rfl) (v' := undef) (by rw [hb663, hb634]; kernel_rfl); clear hF740
            refine sk hF741 (b := false) rfl rfl (by kernel_rfl) (by kernel_rfl) rfl rfl (by kernel_rfl) ?_; intro a742 hF743; clear hF741
            refine sk hF743 (b := false) rfl rfl (by kernel_rfl) (by kernel_rfl) rfl rfl (by kernel_rfl) ?_; intro a744 hF745; clear hF743
            refine st hF745 (.bool false) (by rw [wanted_of hF745 (b := false) rfl rfl (by kernel_rfl) (by kernel_rfl)]; rfl) rfl (by kernel_rfl) (p0 hF745 (by kernel_rfl)) ?_; intro a746 hF747; clear hF745
            refine s1 hF747 156 (.bool false) ?_; intro a748 hF749; clear hF747
            refine nlH (hQ344 _ _ ?_); clear hQ344 hQ344Q
            refine cdF hF749 (by kernel_rfl) ?_
            refine wp_skip ?_
            refine thn ?_
            refine wp_seq ?_
            have hF750 : Fr 171 [] [⟨9, [], .int .i64 (w64 ((w64 ((w64 (u1 - (w64 (u0.Add * u2)))).tdiv r171)).tdiv r261))⟩, ⟨11, [], .int .i64 (w64 (x11.tdiv r216))⟩, ⟨14, [], .int .i64 ((boundsS u0).1)⟩, ⟨15, [], .int .i64 ((boundsS u0).2)⟩] a748 := hF749.reg; clear hF749
            refine sqH ?_; intro hQ751Q hQ751
            refine s1 hF750 157 (.int .i64 (w64 ((w64 ((w64 (u1 - (w64 (u0.Add * u2)))).tdiv r171)).tdiv r261))) ?_; intro a752 hF753; clear hF750
            refine s1 hF753 158 (.int .i64 (w64 (x11.tdiv r216))) ?_; intro a754 hF755; clear hF753
            refine s1 hF755 159 (.int .i64 (w64 ((w64 ((w64 ((w64 (u1 - (w64 (u0.Add * u2)))).tdiv r171)).tdiv r261)) * (w64 (x11.tdiv r216))))) ?_; intro a756 hF757; clear hF755
            refine s1 hF757 16 (.int .i64 (w64 ((w64 ((w64 ((w64 (u1 - (w64 (u0.Add * u2)))).tdiv r171)).tdiv r261)) * (w64 (x11.tdiv r216))))) ?_; intro a758 hF759; clear hF757
            refine nlH (hQ751 _ _ ?_); clear hQ751 hQ751Q
            refine sqH ?_; intro hQ760Q hQ760
            refine s1 hF759 160 (.int .i64 (w64 ((w64 ((w64 ((w64 (u1 - (w64 (u0.Add * u2)))).tdiv r171)).tdiv r261)) * (w64 (x11.tdiv r216))))) ?_; intro a761 hF762; clear hF759
            refine s1 hF762 161 (.int .i64 ((boundsS u0).1)) ?_; intro a763 hF764; clear hF762
            refine s1 hF764 162 (.bool (decide ((w64 ((w64 ((w64 ((w64 (u1 - (w64 (u0.Add * u2)))).tdiv r171)).tdiv r261)) * (w64 (x11.tdiv r216)))) < ((boundsS u0).1)))) ?_; intro a765 hF766; clear hF764
            refine s1 hF766 163 (.bool (decide ((w64 ((w64 ((w64 ((w64 (u1 - (w64 (u0.Add * u2)))).tdiv r171)).tdiv r261)) * (w64 (x11.tdiv r216)))) < ((boundsS u0).1)))) ?_; intro a767 hF768; clear hF766
            have hF769 := hF768.atom ((decide ((w64 ((w64 ((w64 ((w64 (u1 - (w64 (u0.Add * u2)))).tdiv r171)).tdiv r261)) * (w64 (x11.tdiv r216)))) < ((boundsS u0).1))) == false) (by kernel_rfl); clear hF768
            refine gp hF769 164 0 [] (decide ((w64 ((w64 ((w64 ((w64 (u1 - (w64 (u0.Add * u2)))).tdiv r171)).tdiv r261)) * (w64 (x11.tdiv r216)))) < ((boundsS u0).1))) (.int .i64 (w64 ((w64 ((w64 ((w64 (u1 - (w64 (u0.Add * u2)))).tdiv r171)).tdiv r261)) * (w64 (x11.tdiv r216))))) rfl rfl ?_; intro a770 hF771; clear hF769
            refine gp hF771 165 0 [] (decide ((w64 ((w64 ((w64 ((w64 (u1 - (w64 (u0.Add * u2)))).tdiv r171)).tdiv r261)) * (w64 (x11.tdiv r216)))) < ((boundsS u0).1))) (.int .i64 ((boundsS u0).2)) rfl rfl ?_; intro a772 hF773; clear hF771
            refine gp hF773 166 0 [] (decide ((w64 ((w64 ((w64 ((w64 (u1 - (w64 (u0.Add * u2)))).tdiv r171)).tdiv r261)) * (w64 (x11.tdiv r216)))) < ((boundsS u0).1))) (.bool (decide ((w64 ((w64 ((w64 ((w64 (u1 - (w64 (u0.Add * u2)))).tdiv r171)).tdiv r261)) * (w64 (x11.tdiv r216)))) > ((boundsS u0).2)))) rfl rfl ?_; intro a774 hF775; clear hF773
            refine st hF775 (.bool ((decide ((w64 ((w64 ((w64 ((w64 (u1 - (w64 (u0.Add * u2)))).tdiv r171)).tdiv r261)) * (w64 (x11.tdiv r216)))) < ((boundsS u0).1))) || (decide ((w64 ((w64 ((w64 ((w64 (u1 - (w64 (u0.Add * u2)))).tdiv r171)).tdiv r261)) * (w64 (x11.tdiv r216)))) > ((boundsS u0).2))))) (nog rfl _) rfl (by kernel_rfl) (pk_or hF775 (g := []) (m := 0) (b := decide ((w64 ((w64 ((w64 ((w64 (u1 - (w64 (u0.Add * u2)))).tdiv r171)).tdiv r261)) * (w64 (x11.tdiv r216)))) < ((boundsS u0).1))) (v := decide ((w64 ((w64 ((w64 ((w64 (u1 - (w64 (u0.Add * u2)))).tdiv r171)).tdiv r261)) * (w64 (x11.tdiv r216)))) > ((boundsS u0).2))) rfl (by kernel_rfl) (by kernel_rfl) (by kernel_rfl) rfl) ?_; intro a776 hF777; clear hF775
            refine nlH (hQ760 _ _ ?_); clear hQ760 hQ760Q
            refine cd hF777 (t := (decide ((w64 ((w64 ((w64 ((w64 (u1 - (w64 (u0.Add * u2)))).tdiv r171)).tdiv r261)) * (w64 (x11.tdiv r216)))) < ((boundsS u0).1))) || (decide ((w64 ((w64 ((w64 ((w64 (u1 - (w64 (u0.Add * u2)))).tdiv r171)).tdiv r261)) * (w64 (x11.tdiv r216)))) > ((boundsS u0).2)))) (by kernel_rfl) (fun hb778 => ?_) (fun hb778 => ?_)
            ·
             have hp779 := hp737.1 hb778; clear hp737
             have hF780 : Fr 171 [] [] a776 := hF777.reg; clear hF777
             refine sqH ?_; intro hQ781Q hQ781
             refine s1 hF780 6 (.int .i64 0) ?_; intro a782 hF783; clear hF780
             refine s1 hF783 7 (.int .i64 3) ?_; intro a784 hF785; clear hF783
             refine nlH (hQ781 _ _ ?_); clear hQ781 hQ781Q
             refine wp_ret ?_
             refine thr ?_
             refine rt (fn := Tryd.f13) (v := .tuple #[.int .i64 0, .int .i64 3]) hF785 (re2 hF785 (fn := Tryd.f13) rfl (by kernel_rfl) (by kernel_rfl)) ?_
             exact ⟨(0, 3), rfl, hp779, hM333.below⟩
            ·
             have hp786 := hp737.2 hb778; clear hp737
             refine wp_skip ?_
             refine thn ?_
             have hF787 : Fr 171 [] [⟨9, [], .int .i64 (w64 ((w64 ((w64 (u1 - (w64 (u0.Add * u2)))).tdiv r171)).tdiv r261))⟩, ⟨11, [], .int .i64 (w64 (x11.tdiv r216))⟩] a776 := hF777.reg; clear hF777
             refine sqH ?_; intro hQ788Q hQ788
             refine s1 hF787 168 (.int .i64 (w64 ((w64 ((w64 (u1 - (w64 (u0.Add * u2)))).tdiv r171)).tdiv r261))) ?_; intro a789 hF790; clear hF787
             refine s1 hF790 169 (.int .i64 (w64 (x11.tdiv r216))) ?_; intro a791 hF792; clear hF790
             refine s1 hF792 170 (.int .i64 (w64 ((w64 ((w64 ((w64 (u1 - (w64 (u0.Add * u2)))).tdiv r171)).tdiv r261)) * (w64 (x11.tdiv r216))))) ?_; intro a793 hF794; clear hF792
             refine s1 hF794 6 (.int .i64 (w64 ((w64 ((w64 ((w64 (u1 - (w64 (u0.Add * u2)))).tdiv r171)).tdiv r261)) * (w64 (x11.tdiv r216))))) ?_; intro a795 hF796; clear hF794
             refine s1 hF796 7 (.int .i64 0) ?_; intro a797 hF798; clear hF796
             refine nlH (hQ788 _ _ ?_); clear hQ788 hQ788Q
             refine wp_ret ?_
             refine rt (fn := Tryd.f13) (v := .tuple #[.int .i64 (w64 ((w64 ((w64 ((w64 (u1 - (w64 (u0.Add * u2)))).tdiv r171)).tdiv r261)) * (w64 (x11.tdiv r216)))), .int .i64 0]) hF798 (re2 hF798 (fn := Tryd.f13) rfl (by kernel_rfl) (by kernel_rfl)) ?_
             exact ⟨(w64 ((w64 ((w64 ((w64 (u1 - (w64 (u0.Add * u2)))).tdiv r171)).tdiv r261)) * (w64 (x11.tdiv r216))), 0), rfl, hp786, hM333.below⟩
         ·
          have hp799 := hp587.2 hb594; clear hp587
          have hF800 := hF593.reval (d := 134) (c := []) (v := .bool ((decide ((w64 ((w64 ((w64 (u1 - (w64 (u0.Add * u2)))).tdiv r171)).tdiv r261)) > 0)) && (decide ((w64 (x11.tdiv r216)) < 0)))) (by kernel_rfl) (.bool false) (by rw [hb594]); clear hF593
          have hF801 := hF800.setc (d := 135) (c := [6, 5]) (v := .int .i64 (w64 ((w64 ((w64 (u1 - (w64 (u0.Add * u2)))).tdiv r171)).tdiv r261))) (by kernel_rfl) (v' := undef) (by rw [hb594, hb535]; kernel_rfl); clear hF800
          have hF802 := hF801.setc (d := 136) (c := [6, 5]) (v := .int .i64 ((boundsS u0).1)) (by kernel_rfl) (v' := undef) (by rw [hb594, hb535]; kernel_rfl); clear hF801
          have hF803 := hF802.setc (d := 137) (c := [6, 5]) (v := .int .i64 (w64 (x11.tdiv r216))) (by kernel_rfl) (v' := undef) (by rw [hb594, hb535]; kernel_rfl); clear hF802
          refine sk hF803 (b := false) rfl rfl (by kernel_rfl) (by kernel_rfl) rfl rfl (by kernel_rfl) ?_; intro a804 hF805; clear hF803
          refine sk hF805 (b := false) rfl rfl (by kernel_rfl) (by kernel_rfl) rfl rfl (by kernel_rfl) ?_; intro a806 hF807; clear hF805
          refine st hF807 (.bool false) (by rw [wanted_of hF807 (b := false) rfl rfl (by kernel_rfl) (by kernel_rfl)]; rfl) rfl (by kernel_rfl) (p0 hF807 (by kernel_rfl)) ?_; intro a808 hF809; clear hF807
          refine s1 hF809 141 (.bool false) ?_; intro a810 hF811; clear hF809
          refine s1 hF811 142 (.bool false) ?_; intro a812 hF813; clear hF811
          refine st hF813 (.int .i64 (w64 ((w64 ((w64 (u1 - (w64 (u0.Add * u2)))).tdiv r171)).tdiv r261))) (by rw [wanted_of hF813 (b := false) rfl rfl (by kernel_rfl) (by kernel_rfl)]; rfl) rfl (by kernel_rfl) (p0 hF813 (by kernel_rfl)) ?_; intro a814 hF815; clear hF813
          refine st hF815 (.bool (decide ((w64 ((w64 ((w64 (u1 - (w64 (u0.Add * u2)))).tdiv r171)).tdiv r261)) < 0))) (by rw [wanted_of hF815 (b := false) rfl rfl (by kernel_rfl) (by kernel_rfl)]; rfl) rfl (by kernel_rfl) (p0 hF815 (by kernel_rfl)) ?_; intro a816 hF817; clear hF815
          refine st hF817 (.bool (decide ((w64 ((w64 ((w64 (u1 - (w64 (u0.Add * u2)))).tdiv r171)).tdiv r261)) < 0))) (by rw [wanted_of hF817 (b := false) rfl rfl (by kernel_rfl) (by kernel_rfl)]; rfl) rfl (by kernel_rfl) (p0 hF817 (by kernel_rfl)) ?_; intro a818 hF819; clear hF817
          refine gp hF819 146 3 [] (decide ((w64 ((w64 ((w64 (u1 - (w64 (u0.Add * u2)))).tdiv r171)).tdiv r261)) < 0)) (.int .i64 (w64 (x11.tdiv r216))) rfl rfl ?_; intro a820 hF821; clear hF819
          refine gp hF821 147 3 [] (decide ((w64 ((w64 ((w64 (u1 - (w64 (u0.Add * u2)))).tdiv r171)).tdiv r261)) < 0)) (.bool (decide ((w64 (x11.tdiv r216)) < 0))) rfl rfl ?_; intro a822 hF823; clear hF821
          refine st hF823 (.bool ((decide ((w64 ((w64 ((w64 (u1 - (w64 (u0.Add * u2)))).tdiv r171)).tdiv r261)) < 0)) && (decide ((w64 (x11.tdiv r216)) < 0)))) (by rw [wanted_of hF823 (b := false) rfl rfl (by kernel_rfl) (by kernel_rfl)]; rfl) rfl (by kernel_rfl) (pk_and hF823 (g := []) (m := 3) (b := decide ((w64 ((w64 ((w64 (u1 - (w64 (u0.Add * u2)))).tdiv r171)).tdiv r261)) < 0)) (v := decide ((w64 (x11.tdiv r216)) < 0)) rfl (by kernel_rfl) (by kernel_rfl) (by kernel_rfl) rfl) ?_; intro a824 hF825; clear hF823
          refine st hF825 (.bool ((decide ((w64 ((w64 ((w64 (u1 - (w64 (u0.Add * u2)))).tdiv r171)).tdiv r261)) < 0)) && (decide ((w64 (x11.tdiv r216)) < 0)))) (by rw [wanted_of hF825 (b := false) rfl rfl (by kernel_rfl) (by kernel_rfl)]; rfl) rfl (by kernel_rfl) (p0 hF825 (by kernel_rfl)) ?_; intro a826 hF827; clear hF825
          have hF828 := hF827.atom (((decide ((w64 ((w64 ((w64 (u1 - (w64 (u0.Add * u2)))).tdiv r171)).tdiv r261)) < 0)) && (decide ((w64 (x11.tdiv r216)) < 0))) == true) (by kernel_rfl); clear hF827
          refine gp hF828 150 7 [] ((decide ((w64 ((w64 ((w64 (u1 - (w64 (u0.Add * u2)))).tdiv r171)).tdiv r261)) < 0)) && (decide ((w64 (x11.tdiv r216)) < 0))) (.int .i64 (w64 ((w64 ((w64 (u1 - (w64 (u0.Add * u2)))).tdiv r171)).tdiv r261))) rfl rfl ?_; intro a829 hF830; clear hF828
          refine gp hF830 151 7 [] ((decide ((w64 ((w64 ((w64 (u1 - (w64 (u0.Add * u2)))).tdiv r171)).tdiv r261)) < 0)) && (decide ((w64 (x11.tdiv r216)) < 0))) (.int .i64 ((boundsS u0).2)) rfl rfl ?_; intro a831 hF832; clear hF830
          refine gp hF832 152 7 [] ((decide ((w64 ((w64 ((w64 (u1 - (w64 (u0.Add * u2)))).tdiv r171)).tdiv r261)) < 0)) && (decide ((w64 (x11.tdiv r216)) < 0))) (.int .i64 (w64 (x11.tdiv r216))) rfl rfl ?_; intro a833 hF834; clear hF832
          rcases Bool.eq_false_or_eq_true ((decide ((w64 ((w64 ((w64 (u1 - (w64 (u0.Add * u2)))).tdiv r171)).tdiv r261)) < 0)) && (decide ((w64 (x11.tdiv r216)) < 0))) with hb835 | hb835
          ·
           have hp836 := hp799.1 hb835; clear hp799
           have hF837 := hF834.reval (d := 149) (c := []) (v := .bool ((decide ((w64 ((w64 ((w64 (u1 - (w64 (u0.Add * u2)))).tdiv r171)).tdiv r261)) < 0)) && (decide ((w64 (x11.tdiv r216)) < 0)))) (by kernel_rfl) (.bool true) (by rw [hb835]); clear hF834
           have hF838 := hF837.setc (d := 150) (c := [7]) (v := .int .i64 (w64 ((w64 ((w64 (u1 - (w64 (u0.Add * u2)))).tdiv r171)).tdiv r261))) (by kernel_rfl) (v' := .int .i64 (w64 ((w64 ((w64 (u1 - (w64 (u0.Add * u2)))).tdiv r171)).tdiv r261))) (by rw [hb835]; kernel_rfl); clear hF837
           have hF839 := hF838.setc (d := 151) (c := [7]) (v := .int .i64 ((boundsS u0).2)) (by kernel_rfl) (v' := .int .i64 ((boundsS u0).2)) (by rw [hb835]; kernel_rfl); clear hF838
           have hF840 := hF839.setc (d := 152) (c := [7]) (v := .int .i64 (w64 (x11.tdiv r216))) (by kernel_rfl) (v' := .int .i64 (w64 (x11.tdiv r216))) (by rw [hb835]; kernel_rfl); clear hF839
           have hc841 := hp836.1; have hp842 := hp836.2; clear hp836
           refine st hF840 (.int .i64 (w64 (((boundsS u0).2).tdiv (w64 (x11.tdiv r216))))) (by rw [wanted_of hF840 (b := true) rfl rfl (by kernel_rfl) (by kernel_rfl)]; rfl) rfl (by kernel_rfl) (quo_run hF840 (g := []) rfl (by kernel_rfl) (by kernel_rfl) hc841 rfl) ?_; intro a843 hF844; clear hF840
           refine st hF844 (.bool (decide ((w64 ((w64 ((w64 (u1 - (w64 (u0.Add * u2)))).tdiv r171)).tdiv r261)) < (w64 (((boundsS u0).2).tdiv (w64 (x11.tdiv r216))))))) (by rw [wanted_of hF844 (b := true) rfl rfl (by kernel_rfl) (by kernel_rfl)]; rfl) rfl (by kernel_rfl) (p0 hF844 (by kernel_rfl)) ?_; intro a845 hF846; clear hF844
           refine st hF846 (.bool (decide ((w64 ((w64 ((w64 (u1 - (w64 (u0.Add * u2)))).tdiv r171)).tdiv r261)) < (w64 (((boundsS u0).2).tdiv (w64 (x11.tdiv r216))))))) (by rw [wanted_of hF846 (b := false) rfl rfl (by kernel_rfl) (by kernel_rfl)]; rfl) rfl (by kernel_rfl) (p0 hF846 (by kernel_rfl)) ?_; intro a847 hF848; clear hF846
           refine s1 hF848 156 (.bool (decide ((w64 ((w64 ((w64 (u1 - (w64 (u0.Add * u2)))).tdiv r171)).tdiv r261)) < (w64 (((boundsS u0).2).tdiv (w64 (x11.tdiv r216))))))) ?_; intro a849 hF850; clear hF848
           refine nlH (hQ344 _ _ ?_); clear hQ344 hQ344Q
           refine cd hF850 (t := decide ((w64 ((w64 ((w64 (u1 - (w64 (u0.Add * u2)))).tdiv r171)).tdiv r261)) < (w64 (((boundsS u0).2).tdiv (w64 (x11.tdiv r216)))))) (by kernel_rfl) (fun hb851 => ?_) (fun hb851 => ?_)
           ·
            have hp852 := hp842.1 hb851; clear hp842
            have hF853 : Fr 171 [] [] a849 := hF850.reg; clear hF850
            refine sqH ?_; intro hQ854Q hQ854
            refine s1 hF853 6 (.int .i64 0) ?_; intro a855 hF856; clear hF853
            refine s1 hF856 7 (.int .i64 3) ?_; intro a857 hF858; clear hF856
            refine nlH (hQ854 _ _ ?_); clear hQ854 hQ854Q
            refine wp_ret ?_
            refine thr ?_
            refine rt (fn := Tryd.f13) (v := .tuple #[.int .i64 0, .int .i64 3]) hF858 (re2 hF858 (fn := Tryd.f13) rfl (by kernel_rfl) (by kernel_rfl)) ?_
            exact ⟨(0, 3), rfl, hp852, hM333.below⟩
           ·
            have hp859 := hp842.2 hb851; clear hp842
            refine wp_skip ?_
            refine thn ?_
            refine wp_seq ?_
            have hF860 : Fr 171 [] [⟨9, [], .int .i64 (w64 ((w64 ((w64 (u1 - (w64 (u0.Add * u2)))).tdiv r171)).tdiv r261))⟩, ⟨11, [], .int .i64 (w64 (x11.tdiv r216))⟩, ⟨14, [], .int .i64 ((boundsS u0).1)⟩, ⟨15, [], .int .i64 ((boundsS u0).2)⟩] a849 := hF850.reg; clear hF850
            refine sqH ?_; intro hQ861Q hQ861
            refine s1 hF860 157 (.int .i64 (w64 ((w64 ((w64 (u1 - (w64 (u0.Add * u2)))).tdiv r171)).tdiv r261))) ?_; intro a862 hF863; clear hF860
            refine s1 hF863 158 (.int .i64 (w64 (x11.tdiv r216))) ?_; intro a864 hF865; clear hF863
            refine s1 hF865 159 (.int .i64 (w64 ((w64 ((w64 ((w64 (u1 - (w64 (u0.Add * u2)))).tdiv r171)).tdiv r261)) * (w64 (x11.tdiv r216))))) ?_; intro a866 hF867; clear hF865
            refine s1 hF867 16 (.int .i64 (w64 ((w64 ((w64 ((w64 (u1 - (w64 (u0.Add * u2)))).tdiv r171)).tdiv r261)) * (w64 (x11.tdiv r216))))) ?_; intro a868 hF869; clear hF867
            refine nlH (hQ861 _ _ ?_); clear hQ861 hQ861Q
            refine sqH ?_; intro hQ870Q hQ870
            refine s1 hF869 160 (.int .i64 (w64 ((w64 ((w64 ((w64 (u1 - (w64 (u0.Add * u2)))).tdiv r171)).tdiv r261)) * (w64 (x11.tdiv r216))))) ?_; intro a871 hF872; clear hF869
            refine s1 hF872 161 (.int .i64 ((boundsS u0).1)) ?_; intro a873 hF874; clear hF872
            refine s1 hF874 162 (.bool (decide ((w64 ((w64 ((w64 ((w64 (u1 - (w64 (u0.Add * u2)))).tdiv r171)).tdiv r261)) * (w64 (x11.tdiv r216)))) < ((boundsS u0).1)))) ?_; intro a875 hF876; clear hF874
            refine s1 hF876 163 (.bool (decide ((w64 ((w64 ((w64 ((w64 (u1 - (w64 (u0.Add * u2)))).tdiv r171)).tdiv r261)) * (w64 (x11.tdiv r216)))) < ((boundsS u0).1)))) ?_; intro a877 hF878; clear hF876
            have hF879 := hF878.atom ((decide ((w64 ((w64 ((w64 ((w64 (u1 - (w64 (u0.Add * u2)))).tdiv r171)).tdiv r261)) * (w64 (x11.tdiv r216)))) < ((boundsS u0).1))) == false) (by kernel_rfl); clear hF878
            refine gp hF879 164 0 [] (decide ((w64 ((w64 ((w64 ((w64 (u1 - (w64 (u0.Add * u2)))).tdiv r171)).tdiv r261)) * (w64 (x11.tdiv r216)))) < ((boundsS u0).1))) (.int .i64 (w64 ((w64 ((w64 ((w64 (u1 - (w64 (u0.Add * u2)))).tdiv r171)).tdiv r261)) * (w64 (x11.tdiv r216))))) rfl rfl ?_; intro a880 hF881; clear hF879
            refine gp hF881 165 0 [] (decide ((w64 ((w64 ((w64 ((w64 (u1 - (w64 (u0.Add * u2)))).tdiv r171)).tdiv r261)) * (w64 (x11.tdiv r216)))) < ((boundsS u0).1))) (.int .i64 ((boundsS u0).2)) rfl rfl ?_; intro a882 hF883; clear hF881
            refine gp hF883 166 0 [] (decide ((w64 ((w64 ((w64 ((w64 (u1 - (w64 (u0.Add * u2)))).tdiv r171)).tdiv r261)) * (w64 (x11.tdiv r216)))) < ((boundsS u0).1))) (.bool (decide ((w64 ((w64 ((w64 ((w64 (u1 - (w64 (u0.Add * u2)))).tdiv r171)).tdiv r261)) * (w64 (x11.tdiv r216)))) > ((boundsS u0).2)))) rfl rfl ?_; intro a884 hF885; clear hF883
            refine st hF885 (.bool ((decide ((w64 ((w64 ((w64 ((w64 (u1 - (w64 (u0.Add * u2)))).tdiv r171)).tdiv r261)) * (w64 (x11.tdiv r216)))) < ((boundsS u0).1))) || (decide ((w64 ((w64 ((w64 ((w64 (u1 - (w64 (u0.Add * u2)))).tdiv r171)).tdiv r261)) * (w64 (x11.tdiv r216)))) > ((boundsS u0).2))))) (nog rfl _) rfl (by kernel_rfl) (pk_or hF885 (g := []) (m := 0) (b := decide ((w64 ((w64 ((w64 ((w64 (u1 - (w64 (u0.Add * u2)))).tdiv r171)).tdiv r261)) * (w64 (x11.tdiv r216)))) < ((boundsS u0).1))) (v := decide ((w64 ((w64 ((w64 ((w64 (u1 - (w64 (u0.Add * u2)))).tdiv r171)).tdiv r261)) * (w64 (x11.tdiv r216)))) > ((boundsS u0).2))) rfl (by kernel_rfl) (by kernel_rfl) (by kernel_rfl) rfl) ?_; intro a886 hF887; clear hF885
            refine nlH (hQ870 _ _ ?_); clear hQ870 hQ870Q
            refine cd hF887 (t := (decide ((w64 ((w64 ((w64 ((w64 (u1 - (w64 (u0.Add * u2)))).tdiv r171)).tdiv r261)) * (w64 (x11.tdiv r216)))) < ((boundsS u0).1))) || (decide ((w64 ((w64 ((w64 ((w64 (u1 - (w64 (u0.Add * u2)))).tdiv r171)).tdiv r261)) * (w64 (x11.tdiv r216)))) > ((boundsS u0).2)))) (by kernel_rfl) (fun hb888 => ?_) (fun hb888 => ?_)
            ·
             have hp889 := hp859.1 hb888; clear hp859
             have hF890 : Fr 171 [] [] a886 := hF887.reg; clear hF887
             refine sqH ?_; intro hQ891Q hQ891
             refine s1 hF890 6 (.int .i64 0) ?_; intro a892 hF893; clear hF890
             refine s1 hF893 7 (.int .i64 3) ?_; intro a894 hF895; clear hF893
             refine nlH (hQ891 _ _ ?_); clear hQ891 hQ891Q
             refine wp_ret ?_
             refine thr ?_
             refine rt (fn := Tryd.f13) (v := .tuple #[.int .i64 0, .int .i64 3]) hF895 (re2 hF895 (fn := Tryd.f13) rfl (by kernel_rfl) (by kernel_rfl)) ?_
             exact ⟨(0, 3), rfl, hp889, hM333.below⟩
            ·
             have hp896 := hp859.2 hb888; clear hp859
             refine wp_skip ?_
             refine thn ?_
             have hF897 : Fr 171 [] [⟨9, [], .int .i64 (w64 ((w64 ((w64 (u1 - (w64 (u0.Add * u2)))).tdiv r171)).tdiv r261))⟩, ⟨11, [], .int .i64 (w64 (x11.tdiv r216))⟩] a886 := hF887.reg; clear hF887
             refine sqH ?_; intro hQ898Q hQ898
             refine s1 hF897 168 (.int .i64 (w64 ((w64 ((w64 (u1 - (w64 (u0.Add * u2)))).tdiv r171)).tdiv r261))) ?_; intro a899 hF900; clear hF897
             refine s1 hF900 169 (.int .i64 (w64 (x11.tdiv r216))) ?_; intro a901 hF902; clear hF900
             refine s1 hF902 170 (.int .i64 (w64 ((w64 ((w64 ((w64 (u1 - (w64 (u0.Add * u2)))).tdiv r171)).tdiv r261)) * (w64 (x11.tdiv r216))))) ?_; intro a903 hF904; clear hF902
             refine s1 hF904 6 (.int .i64 (w64 ((w64 ((w64 ((w64 (u1 - (w64 (u0.Add * u2)))).tdiv r171)).tdiv r261)) * (w64 (x11.tdiv r216))))) ?_; intro a905 hF906; clear hF904
             refine s1 hF906 7 (.int .i64 0) ?_; intro a907 hF908; clear hF906
             refine nlH (hQ898 _ _ ?_); clear hQ898 hQ898Q
             refine wp_ret ?_
             refine rt (fn := Tryd.f13) (v := .tuple #[.int .i64 (w64 ((w64 ((w64 ((w64 (u1 - (w64 (u0.Add * u2)))).tdiv r171)).tdiv r261)) * (w64 (x11.tdiv r216)))), .int .i64 0]) hF908 (re2 hF908 (fn := Tryd.f13) rfl (by kernel_rfl) (by kernel_rfl)) ?_
             exact ⟨(w64 ((w64 ((w64 ((w64 (u1 - (w64 (u0.Add * u2)))).tdiv r171)).tdiv r261)) * (w64 (x11.tdiv r216))), 0), rfl, hp896, hM333.below⟩
          ·
           have hp909 := hp799.2 hb835; clear hp799
           have hF910 := hF834.reval (d := 149) (c := []) (v := .bool ((decide ((w64 ((w64 ((w64 (u1 - (w64 (u0.Add * u2)))).tdiv r171)).tdiv r261)) < 0)) && (decide ((w64 (x11.tdiv r216)) < 0)))) (by kernel_rfl) (.bool false) (by rw [hb835]); clear hF834
           have hF911 := hF910.setc (d := 150) (c := [7]) (v := .int .i64 (w64 ((w64 ((w64 (u1 - (w64 (u0.Add * u2)))).tdiv r171)).tdiv r261))) (by kernel_rfl) (v' := undef) (by rw [hb835]; kernel_rfl); clear hF910
           have hF912 := hF911.setc (d := 151) (c := [7]) (v := .int .i64 ((boundsS u0).2)) (by kernel_rfl) (v' := undef) (by rw [hb835]; kernel_rfl); clear hF911
           have hF913 := hF912.setc (d := 152) (c := [7]) (v := .int .i64 (w64 (x11.tdiv r216))) (by kernel_rfl) (v' := undef) (by rw [hb835]; kernel_rfl); clear hF912
           refine sk hF913 (b := false) rfl rfl (by kernel_rfl) (by kernel_rfl) rfl rfl (by kernel_rfl) ?_; intro a914 hF915; clear hF913
           refine sk hF915 (b := false) rfl rfl (by kernel_rfl) (by kernel_rfl) rfl rfl (by kernel_rfl) ?_; intro a916 hF917; clear hF915
           refine st hF917 (.bool false) (by rw [wanted_of hF917 (b := false) rfl rfl (by kernel_rfl) (by kernel_rfl)]; rfl) rfl (by kernel_rfl) (p0 hF917 (by kernel_rfl)) ?_; intro a918 hF919; clear hF917
           refine s1 hF919 156 (.bool false) ?_; intro a920 hF921; clear hF919
           refine nlH (hQ344 _ _ ?_); clear hQ344 hQ344Q
           refine cdF hF921 (by kernel_rfl) ?_
           refine wp_skip ?_
           refine thn ?_
           refine wp_seq ?_
           have hF922 : Fr 171 [] [⟨9, [], .int .i64 (w64 ((w64 ((w64 (u1 - (w64 (u0.Add * u2)))).tdiv r171)).tdiv r261))⟩, ⟨11, [], .int .i64 (w64 (x11.tdiv r216))⟩, ⟨14, [], .int .i64 ((boundsS u0).1)⟩, ⟨15, [], .int .i64 ((boundsS u0).2)⟩] a920 := hF921.reg; clear hF921
           refine sqH ?_; intro hQ923Q hQ923
           refine s1 hF922 157 (.int .i64 (w64 ((w64 ((w64 (u1 - (w64 (u0.Add * u2)))).tdiv r171)).tdiv r261))) ?_; intro a924 hF925; clear hF922
           refine s1 hF925 158 (.int .i64 (w64 (x11.tdiv r216))) ?_; intro a926 hF927; clear hF925
           refine s1 hF927 159 (.int .i64 (w64 ((w64 ((w64 ((w64 (u1 - (w64 (u0.Add * u2)))).tdiv r171)).tdiv r261)) * (w64 (x11.tdiv r216))))) ?_; intro a928 hF929; clear hF927
           refine s1 hF929 16 (.int .i64 (w64 ((w64 ((w64 ((w64 (u1 - (w64 (u0.Add * u2)))).tdiv r171)).tdiv r261)) * (w64 (x11.tdiv r216))))) ?_; intro a930 hF931; clear hF929
           refine nlH (hQ923 _ _ ?_); clear hQ923 hQ923Q
           refine sqH ?_; intro hQ932Q hQ932
           refine s1 hF931 160 (.int .i64 (w64 ((w64 ((w64 ((w64 (u1 - (w64 (u0.Add * u2)))).tdiv r171)).tdiv r261)) * (w64 (x11.tdiv r216))))) ?_; intro a933 hF934; clear hF931
           refine s1 hF934 161 (.int .i64 ((boundsS u0).1)) ?_; intro a935 hF936; clear hF934
           refine s1 hF936 162 (.bool (decide ((w64 ((w64 ((w64 ((w64 (u1 - (w64 (u0.Add * u2)))).tdiv r171)).tdiv r261)) * (w64 (x11.tdiv r216)))) < ((boundsS u0).1)))) ?_; intro a937 hF938; clear hF936
           refine s1 hF938 163 (.bool (decide ((w64 ((w64 ((w64 ((w64 (u1 - (w64 (u0.Add * u2)))).tdiv r171)).tdiv r261)) * (w64 (x11.tdiv r216)))) < ((boundsS u0).1)))) ?_; intro a939 hF940; clear hF938
           have hF941 := hF940.atom ((decide ((w64 ((w64 ((w64 ((w64 (u1 - (w64 (u0.Add * u2)))).tdiv r171)).tdiv r261)) * (w64 (x11.tdiv r216)))) < ((boundsS u0).1))) == false) (by kernel_rfl); clear hF940
           refine gp hF941 164 0 [] (decide ((w64 ((w64 ((w64 ((w64 (u1 - (w64 (u0.Add * u2)))).tdiv r171)).tdiv r261)) * (w64 (x11.tdiv r216)))) < ((boundsS u0).1))) (.int .i64 (w64 ((w64 ((w64 ((w64 (u1 - (w64 (u0.Add * u2)))).tdiv r171)).tdiv r261)) * (w64 (x11.tdiv r216))))) rfl rfl ?_; intro a942 hF943; clear hF941
           refine gp hF943 165 0 [] (decide ((w64 ((w64 ((w64 ((w64 (u1 - (w64 (u0.Add * u2)))).tdiv r171)).tdiv r261)) * (w64 (x11.tdiv r216)))) < ((boundsS u0).1))) (.int .i64 ((boundsS u0).2)) rfl rfl ?_; intro a944 hF945; clear hF943
           refine gp hF945 166 0 [] (decide ((w64 ((w64 ((w64 ((w64 (u1 - (w64 (u0.Add * u2)))).tdiv r171)).tdiv r261)) * (w64 (x11.tdiv r216)))) < ((boundsS u0).1))) (.bool (decide ((w64 ((w64 ((w64 ((w64 (u1 - (w64 (u0.Add * u2)))).tdiv r171)).tdiv r261)) * (w64 (x11.tdiv r216)))) > ((boundsS u0).2)))) rfl rfl ?_; intro a946 hF947; clear hF945
           refine st hF947 (.bool ((decide ((w64 ((w64 ((w64 ((w64 (u1 - (w64 (u0.Add * u2)))).tdiv r171)).tdiv r261)) * (w64 (x11.tdiv r216)))) < ((boundsS u0).1))) || (decide ((w64 ((w64 ((w64 ((w64 (u1 - (w64 (u0.Add * u2)))).tdiv r171)).tdiv r261)) * (w64 (x11.tdiv r216)))) > ((boundsS u0).2))))) (nog rfl _) rfl (by kernel_rfl) (pk_or hF947 (g := []) (m := 0) (b := decide ((w64 ((w64 ((w64 ((w64 (u1 - (w64 (u0.Add * u2)))).tdiv r171)).tdiv r261)) * (w64 (x11.tdiv r216)))) < ((boundsS u0).1))) (v := decide ((w64 ((w64 ((w64 ((w64 (u1 - (w64 (u0.Add * u2)))).tdiv r171)).tdiv r261)) * (w64 (x11.tdiv r216)))) > ((boundsS u0).2))) rfl (by kernel_rfl) (by kernel_rfl) (by kernel_rfl) rfl) ?_; intro a948 hF949; clear hF947
           refine nlH (hQ932 _ _ ?_); clear hQ932 hQ932Q
           refine cd hF949 (t := (decide ((w64 ((w64 ((w64 ((w64 (u1 - (w64 (u0.Add * u2)))).tdiv r171)).tdiv r261)) * (w64 (x11.tdiv r216)))) < ((boundsS u0).1))) || (decide ((w64 ((w64 ((w64 ((w64 (u1 - (w64 (u0.Add * u2)))).tdiv r171)).tdiv r261)) * (w64 (x11.tdiv r216)))) > ((boundsS u0).2)))) (by kernel_rfl) (fun hb950 => ?_) (fun hb950 => ?_)
           ·
            have hp951 := hp909.1 hb950; clear hp909
            have hF952 : Fr 171 [] [] a948 := hF949.reg; clear hF949
            refine sqH ?_; intro hQ953Q hQ953
            refine s1 hF952 6 (.int .i64 0) ?_; intro a954 hF955; clear hF952
            refine s1 hF955 7 (.int .i64 3) ?_; intro a956 hF957; clear hF955
            refine nlH (hQ953 _ _ ?_); clear hQ953 hQ953Q
            refine wp_ret ?_
            refine thr ?_
            refine rt (fn := Tryd.f13) (v := .tuple #[.int .i64 0, .int .i64 3]) hF957 (re2 hF957 (fn := Tryd.f13) rfl (by kernel_rfl) (by kernel_rfl)) ?_
            exact ⟨(0, 3), rfl, hp951, hM333.below⟩
           ·
            have hp958 := hp909.2 hb950; clear hp909
            refine wp_skip ?_
            refine thn ?_
            have hF959 : Fr 171 [] [⟨9, [], .int .i64 (w64 ((w64 ((w64 (u1 - (w64 (u0.Add * u2)))).tdiv r171)).tdiv r261))⟩, ⟨11, [], .int .i64 (w64 (x11.tdiv r216))⟩] a948 := hF949.reg; clear hF949
            refine sqH ?_; intro hQ960Q hQ960
            refine s1 hF959 168 (.int .i64 (w64 ((w64 ((w64 (u1 - (w64 (u0.Add * u2)))).tdiv r171)).tdiv r261))) ?_; intro a961 hF962; clear hF959
            refine s1 hF962 169 (.int .i64 (w64 (x11.tdiv r216))) ?_; intro a963 hF964; clear hF962
            refine s1 hF964 170 (.int .i64 (w64 ((w64 ((w64 ((w64 (u1 - (w64 (u0.Add * u2)))).tdiv r171)).tdiv r261)) * (w64 (x11.tdiv r216))))) ?_; intro a965 hF966; clear hF964
            refine s1 hF966 6 (.int .i64 (w64 ((w64 ((w64 ((w64 (u1 - (w64 (u0.Add * u2)))).tdiv r171)).tdiv r261)) * (w64 (x11.tdiv r216))))) ?_; intro a967 hF968; clear hF966
            refine s1 hF968 7 (.int .i64 0) ?_; intro a969 hF970; clear hF968
            refine nlH (hQ960 _ _ ?_); clear hQ960 hQ960Q
            refine wp_ret ?_
            refine rt (fn := Tryd.f13) (v := .tuple #[.int .i64 (w64 ((w64 ((w64 ((w64 (u1 - (w64 (u0.Add * u2)))).tdiv r171)).tdiv r261)) * (w64 (x11.tdiv r216)))), .int .i64 0]) hF970 (re2 hF970 (fn := Tryd.f13) rfl (by kernel_rfl) (by kernel_rfl)) ?_
            exact ⟨(w64 ((w64 ((w64 ((w64 (u1 - (w64 (u0.Add * u2)))).tdiv r171)).tdiv r261)) * (w64 (x11.tdiv r216))), 0), rfl, hp958, hM333.below⟩
       ·
        have hp971 := hp488.2 hb495; clear hp488
        have hF972 := hF494.reval (d := 119) (c := []) (v := .bool ((decide ((w64 ((w64 ((w64 (u1 - (w64 (u0.Add * u2)))).tdiv r171)).tdiv r261)) < 0)) && (decide ((w64 (x11.tdiv r216)) > 0)))) (by kernel_rfl) (.bool false) (by rw [hb495]); clear hF494
        have hF973 := hF972.setc (d := 120) (c := [4, 2]) (v := .int .i64 (w64 ((w64 ((w64 (u1 - (w64 (u0.Add * u2)))).tdiv r171)).tdiv r261))) (by kernel_rfl) (v' := undef) (by rw [hb495, hb406]; kernel_rfl); clear hF972
        have hF974 := hF973.setc (d := 121) (c := [4, 2]) (v := .int .i64 ((boundsS u0).1)) (by kernel_rfl) (v' := undef) (by rw [hb495, hb406]; kernel_rfl); clear hF973
        have hF975 := hF974.setc (d := 122) (c := [4, 2]) (v := .int .i64 (w64 (x11.tdiv r216))) (by kernel_rfl) (v' := undef) (by rw [hb495, hb406]; kernel_rfl); clear hF974
        refine sk hF975 (b := false) rfl rfl (by kernel_rfl) (by kernel_rfl) rfl rfl (by kernel_rfl) ?_; intro a976 hF977; clear hF975
        refine sk hF977 (b := false) rfl rfl (by kernel_rfl) (by kernel_rfl) rfl rfl (by kernel_rfl) ?_; intro a978 hF979; clear hF977
        refine st hF979 (.bool false) (by rw [wanted_of hF979 (b := false) rfl rfl (by kernel_rfl) (by kernel_rfl)]; rfl) rfl (by kernel_rfl) (p0 hF979 (by kernel_rfl)) ?_; intro a980 hF981; clear hF979
        refine s1 hF981 126 (.bool false) ?_; intro a982 hF983; clear hF981
        refine s1 hF983 127 (.bool false) ?_; intro a984 hF985; clear hF983
        refine st hF985 (.int .i64 (w64 ((w64 ((w64 (u1 - (w64 (u0.Add * u2)))).tdiv r171)).tdiv r261))) (by rw [wanted_of hF985 (b := false) rfl rfl (by kernel_rfl) (by kernel_rfl)]; rfl) rfl (by kernel_rfl) (p0 hF985 (by kernel_rfl)) ?_; intro a986 hF987; clear hF985
        refine st hF987 (.bool (decide ((w64 ((w64 ((w64 (u1 - (w64 (u0.Add * u2)))).tdiv r171)).tdiv r261)) > 0))) (by rw [wanted_of hF987 (b := false) rfl rfl (by kernel_rfl) (by kernel_rfl)]; rfl) rfl (by kernel_rfl) (p0 hF987 (by kernel_rfl)) ?_; intro a988 hF989; clear hF987
        refine st hF989 (.bool (decide ((w64 ((w64 ((w64 (u1 - (w64 (u0.Add * u2)))).tdiv r171)).tdiv r261)) > 0))) (by rw [wanted_of hF989 (b := false) rfl rfl (by kernel_rfl) (by kernel_rfl)]; rfl) rfl (by kernel_rfl) (p0 hF989 (by kernel_rfl)) ?_; intro a990 hF991; clear hF989
        refine gp hF991 131 0 [] (decide ((w64 ((w64 ((w64 (u1 - (w64 (u0.Add * u2)))).tdiv r171)).tdiv r261)) > 0)) (.int .i64 (w64 (x11.tdiv r216))) rfl rfl ?_; intro a992 hF993; clear hF991
        refine gp hF993 132 0 [] (decide ((w64 ((w64 ((w64 (u1 - (w64 (u0.Add * u2)))).tdiv r171)).tdiv r261)) > 0)) (.bool (decide ((w64 (x11.tdiv r216)) < 0))) rfl rfl ?_; intro a994 hF995; clear hF993
        refine st hF995 (.bool ((decide ((w64 ((w64 ((w64 (u1 - (w64 (u0.Add * u2)))).tdiv r171)).tdiv r261)) > 0)) && (decide ((w64 (x11.tdiv r216)) < 0)))) (by rw [wanted_of hF995 (b := false) rfl rfl (by kernel_rfl) (by kernel_rfl)]; rfl) rfl (by kernel_rfl) (pk_and hF995 (g := []) (m := 0) (b := decide ((w64 ((w64 ((w64 (u1 - (w64 (u0.Add * u2)))).tdiv r171)).tdiv r261)) > 0)) (v := decide ((w64 (x11.tdiv r216)) < 0)) rfl (by kernel_rfl) (by kernel_rfl) (by kernel_rfl) rfl) ?_; intro a996 hF997; clear hF995
        refine st hF997 (.bool ((decide ((w64 ((w64 ((w64 (u1 - (w64 (u0.Add * u2)))).tdiv r171)).tdiv r261)) > 0)) && (decide ((w64 (x11.tdiv r216)) < 0)))) (by rw [wanted_of hF997 (b := false) rfl rfl (by kernel_rfl) (by kernel_rfl)]; rfl) rfl (by kernel_rfl) (p0 hF997 (by kernel_rfl)) ?_; intro a998 hF999; clear hF997
        have hF1000 := hF999.atom (((decide ((w64 ((w64 ((w64 (u1 - (w64 (u0.Add * u2)))).tdiv r171)).tdiv r261)) > 0)) && (decide ((w64 (x11.tdiv r216)) < 0))) == true) (by kernel_rfl); clear hF999
        refine gp hF1000 135 5 [] ((decide ((w64 ((w64 ((w64 (u1 - (w64 (u0.Add * u2)))).tdiv r171)).tdiv r261)) > 0)) && (decide ((w64 (x11.tdiv r216)) < 0))) (.int .i64 (w64 ((w64 ((w64 (u1 - (w64 (u0.Add * u2)))).tdiv r171)).tdiv r261))) rfl rfl ?_; intro a1001 hF1002; clear hF1000
        refine gp hF1002 136 5 [] ((decide ((w64 ((w64 ((w64 (u1 - (w64 (u0.Add * u2)))).tdiv r171)).tdiv r261)) > 0)) && (decide ((w64 (x11.tdiv r216)) < 0))) (.int .i64 ((boundsS u0).1)) rfl rfl ?_; intro a1003 hF1004; clear hF1002
        refine gp hF1004 137 5 [] ((decide ((w64 ((w64 ((w64 (u1 - (w64 (u0.Add * u2)))).tdiv r171)).tdiv r261)) > 0)) && (decide ((w64 (x11.tdiv r216)) < 0))) (.int .i64 (w64 (x11.tdiv r216))) rfl rfl ?_; intro a1005 hF1006; clear hF1004
        rcases Bool.eq_false_or_eq_true ((decide ((w64 ((w64 ((w64 (u1 - (w64 (u0.Add * u2)))).tdiv r171)).tdiv r261)) > 0)) && (decide ((w64 (x11.tdiv r216)) < 0))) with hb1007 | hb1007
        ·
         have hp1008 := hp971.1 hb1007; clear hp971
         have hF1009 := hF1006.reval (d := 134) (c := []) (v := .bool ((decide ((w64 ((w64 ((w64 (u1 - (w64 (u0.Add * u2)))).tdiv r171)).tdiv r261)) > 0)) && (decide ((w64 (x11.tdiv r216)) < 0)))) (by kernel_rfl) (.bool true) (by rw [hb1007]); clear hF1006
         have hF1010 := hF1009.setc (d := 135) (c := [5]) (v := .int .i64 (w64 ((w64 ((w64 (u1 - (w64 (u0.Add * u2)))).tdiv r171)).tdiv r261))) (by kernel_rfl) (v' := .int .i64 (w64 ((w64 ((w64 (u1 - (w64 (u0.Add * u2)))).tdiv r171)).tdiv r261))) (by rw [hb1007]; kernel_rfl); clear hF1009
         have hF1011 := hF1010.setc (d := 136) (c := [5]) (v := .int .i64 ((boundsS u0).1)) (by kernel_rfl) (v' := .int .i64 ((boundsS u0).1)) (by rw [hb1007]; kernel_rfl); clear hF1010
         have hF1012 := hF1011.setc (d := 137) (c := [5]) (v := .int .i64 (w64 (x11.tdiv r216))) (by kernel_rfl) (v' := .int .i64 (w64 (x11.tdiv r216))) (by rw [hb1007]; kernel_rfl); clear hF1011
         have hc1013 := hp1008.1; have hp1014 := hp1008.2; clear hp1008
         refine st hF1012 (.int .i64 (w64 (((boundsS u0).1).tdiv (w64 (x11.tdiv r216))))) (by rw [wanted_of hF1012 (b := true) rfl rfl (by kernel_rfl) (by kernel_rfl)]; rfl) rfl (by kernel_rfl) (quo_run hF1012 (g := []) rfl (by kernel_rfl) (by kernel_rfl) hc1013 rfl) ?_; intro a1015 hF1016; clear hF1012
         refine st hF1016 (.bool (decide ((w64 ((w64 ((w64 (u1 - (w64 (u0.Add * u2)))).tdiv r171)).tdiv r261)) > (w64 (((boundsS u0).1).tdiv (w64 (x11.tdiv r216))))))) (by rw [wanted_of hF1016 (b := true) rfl rfl (by kernel_rfl) (by kernel_rfl)]; rfl) rfl (by kernel_rfl) (p0 hF1016 (by kernel_rfl)) ?_; intro a1017 hF1018; clear hF1016
         refine st hF1018 (.bool (decide ((w64 ((w64 ((w64 (u1 - (w64 (u0.Add * u2)))).tdiv r171)).tdiv r261)) > (w64 (((boundsS u0).1).tdiv (w64 (x11.tdiv r216))))))) (by rw [wanted_of hF1018 (b := false) rfl rfl (by kernel_rfl) (by kernel_rfl)]; rfl) rfl (by kernel_rfl) (p0 hF1018 (by kernel_rfl)) ?_; intro a1019 hF1020; clear hF1018
         refine s1 hF1020 141 (.bool (decide ((w64 ((w64 ((w64 (u1 - (w64 (u0.Add * u2)))).tdiv r171)).tdiv r261)) > (w64 (((boundsS u0).1).tdiv (w64 (x11.tdiv r216))))))) ?_; intro a1021 hF1022; clear hF1020
         refine s1 hF1022 142 (.bool (decide ((w64 ((w64 ((w64 (u1 - (w64 (u0.Add * u2)))).tdiv r171)).tdiv r261)) > (w64 (((boundsS u0).1).tdiv (w64 (x11.tdiv r216))))))) ?_; intro a1023 hF1024; clear hF1022
         have hF1025 := hF1024.atom ((decide ((w64 ((w64 ((w64 (u1 - (w64 (u0.Add * u2)))).tdiv r171)).tdiv r261)) > (w64 (((boundsS u0).1).tdiv (w64 (x11.tdiv r216)))))) == false) (by kernel_rfl); clear hF1024
         refine gp hF1025 143 6 [] (decide ((w64 ((w64 ((w64 (u1 - (w64 (u0.Add * u2)))).tdiv r171)).tdiv r261)) > (w64 (((boundsS u0).1).tdiv (w64 (x11.tdiv r216)))))) (.int .i64 (w64 ((w64 ((w64 (u1 - (w64 (u0.Add * u2)))).tdiv r171)).tdiv r261))) rfl rfl ?_; intro a1026 hF1027; clear hF1025
         refine gp hF1027 144 6 [] (decide ((w64 ((w64 ((w64 (u1 - (w64 (u0.Add * u2)))).tdiv r171)).tdiv r261)) > (w64 (((boundsS u0).1).tdiv (w64 (x11.tdiv r216)))))) (.bool (decide ((w64 ((w64 ((w64 (u1 - (w64 (u0.Add * u2)))).tdiv r171)).tdiv r261)) < 0))) rfl rfl ?_; intro a1028 hF1029; clear hF1027
         refine gp hF1029 145 6 [] (decide ((w64 ((w64 ((w64 (u1 - (w64 (u0.Add * u2)))).tdiv r171)).tdiv r261)) > (w64 (((boundsS u0).1).tdiv (w64 (x11.tdiv r216)))))) (.bool (decide ((w64 ((w64 ((w64 (u1 - (w64 (u0.Add * u2)))).tdiv r171)).tdiv r261)) < 0))) rfl rfl ?_; intro a1030 hF1031; clear hF1029
         refine gp hF1031 146 3 [6] (decide ((w64 ((w64 ((w64 (u1 - (w64 (u0.Add * u2)))).tdiv r171)).tdiv r261)) < 0)) (.int .i64 (w64 (x11.tdiv r216))) rfl rfl ?_; intro a1032 hF1033; clear hF1031
         refine gp hF1033 147 3 [6] (decide ((w64 ((w64 ((w64 (u1 - (w64 (u0.Add * u2)))).tdiv r171)).tdiv r261)) < 0)) (.bool (decide ((w64 (x11.tdiv r216)) < 0))) rfl rfl ?_; intro a1034 hF1035; clear hF1033
         refine gd hF1035 (.bool ((decide ((w64 ((w64 ((w64 (u1 - (w64 (u0.Add * u2)))).tdiv r171)).tdiv r261)) < 0)) && (decide ((w64 (x11.tdiv r216)) < 0)))) (m := 6) (cj := []) (bj := decide ((w64 ((w64 ((w64 (u1 - (w64 (u0.Add * u2)))).tdiv r171)).tdiv r261)) > (w64 (((boundsS u0).1).tdiv (w64 (x11.tdiv r216)))))) rfl rfl (by kernel_rfl) rfl (by kernel_rfl) (by kernel_rfl) (by kernel_rfl) (fun hg => pk_and hF1035 (g := [6]) (m := 3) (b := decide ((w64 ((w64 ((w64 (u1 - (w64 (u0.Add * u2)))).tdiv r171)).tdiv r261)) < 0)) (v := decide ((w64 (x11.tdiv r216)) < 0)) rfl (by kernel_rfl) (by kernel_rfl) (by kernel_rfl) hg) ?_; intro a1036 hF1037; clear hF1035
         refine gp hF1037 149 6 [] (decide ((w64 ((w64 ((w64 (u1 - (w64 (u0.Add * u2)))).tdiv r171)).tdiv r261)) > (w64 (((boundsS u0).1).tdiv (w64 (x11.tdiv r216)))))) (.bool ((decide ((w64 ((w64 ((w64 (u1 - (w64 (u0.Add * u2)))).tdiv r171)).tdiv r261)) < 0)) && (decide ((w64 (x11.tdiv r216)) < 0)))) rfl rfl ?_; intro a1038 hF1039; clear hF1037
         have hF1040 := hF1039.atom (((decide ((w64 ((w64 ((w64 (u1 - (w64 (u0.Add * u2)))).tdiv r171)).tdiv r261)) < 0)) && (decide ((w64 (x11.tdiv r216)) < 0))) == true) (by kernel_rfl); clear hF1039
         refine gp hF1040 150 7 [6] ((decide ((w64 ((w64 ((w64 (u1 - (w64 (u0.Add * u2)))).tdiv r171)).tdiv r261)) < 0)) && (decide ((w64 (x11.tdiv r216)) < 0))) (.int .i64 (w64 ((w64 ((w64 (u1 - (w64 (u0.Add * u2)))).tdiv r171)).tdiv r261))) rfl rfl ?_; intro a1041 hF1042; clear hF1040
         refine gp hF1042 151 7 [6] ((decide ((w64 ((w64 ((w64 (u1 - (w64 (u0.Add * u2)))).tdiv r171)).tdiv r261)) < 0)) && (decide ((w64 (x11.tdiv r216)) < 0))) (.int .i64 ((boundsS u0).2)) rfl rfl ?_; intro a1043 hF1044; clear hF1042
         refine gp hF1044 152 7 [6] ((decide ((w64 ((w64 ((w64 (u1 - (w64 (u0.Add * u2)))).tdiv r171)).tdiv r261)) < 0)) && (decide ((w64 (x11.tdiv r216)) < 0))) (.int .i64 (w64 (x11.tdiv r216))) rfl rfl ?_; intro a1045 hF1046; clear hF1044
         rcases Bool.eq_false_or_eq_true (decide ((w64 ((w64 ((w64 (u1 - (w64 (u0.Add * u2)))).tdiv r171)).tdiv r261)) > (w64 (((boundsS u0).1).tdiv (w64 (x11.tdiv r216)))))) with hb1047 | hb1047
         ·
          have hp1048 := hp1014.1 hb1047; clear hp1014
          have hF1049 := hF1046.reval (d := 142) (c := []) (v := .bool (decide ((w64 ((w64 ((w64 (u1 - (w64 (u0.Add * u2)))).tdiv r171)).tdiv r261)) > (w64 (((boundsS u0).1).tdiv (w64 (x11.tdiv r216))))))) (by kernel_rfl) (.bool true) (by rw [hb1047]); clear hF1046
          have hF1050 := hF1049.setc (d := 143) (c := [6]) (v := .int .i64 (w64 ((w64 ((w64 (u1 - (w64 (u0.Add * u2)))).tdiv r171)).tdiv r261))) (by kernel_rfl) (v' := undef) (by rw [hb1047]; kernel_rfl); clear hF1049
          have hF1051 := hF1050.setc (d := 144) (c := [6]) (v := .bool (decide ((w64 ((w64 ((w64 (u1 - (w64 (u0.Add * u2)))).tdiv r171)).tdiv r261)) < 0))) (by kernel_rfl) (v' := undef) (by rw [hb1047]; kernel_rfl); clear hF1050
          have hF1052 := hF1051.setc (d := 145) (c := [6]) (v := .bool (decide ((w64 ((w64 ((w64 (u1 - (w64 (u0.Add * u2)))).tdiv r171)).tdiv r261)) < 0))) (by kernel_rfl) (v' := undef) (by rw [hb1047]; kernel_rfl); clear hF1051
          have hF1053 := hF1052.setc (d := 148) (c := [6]) (v := .bool ((decide ((w64 ((w64 ((w64 (u1 - (w64 (u0.Add * u2)))).tdiv r171)).tdiv r261)) < 0)) && (decide ((w64 (x11.tdiv r216)) < 0)))) (by kernel_rfl) (v' := undef) (by rw [hb1047]; kernel_rfl); clear hF1052
          have hF1054 := hF1053.setc (d := 149) (c := [6]) (v := .bool ((decide ((w64 ((w64 ((w64 (u1 - (w64 (u0.Add * u2)))).tdiv r171)).tdiv r261)) < 0)) && (decide ((w64 (x11.tdiv r216)) < 0)))) (by kernel_rfl) (v' := undef) (by rw [hb1047]; kernel_rfl); clear hF1053
          refine sku hF1054 rfl rfl (by kernel_rfl) (by kernel_rfl) rfl (by kernel_rfl) ?_; intro a1055 hF1056; clear hF1054
          refine sku hF1056 rfl rfl (by kernel_rfl) (by kernel_rfl) rfl (by kernel_rfl) ?_; intro a1057 hF1058; clear hF1056
          refine sk hF1058 (b := true) rfl rfl (by kernel_rfl) (by kernel_rfl) rfl rfl (by kernel_rfl) ?_; intro a1059 hF1060; clear hF1058
          refine s1 hF1060 156 (.bool true) ?_; intro a1061 hF1062; clear hF1060
          refine nlH (hQ344 _ _ ?_); clear hQ344 hQ344Q
          refine cdT hF1062 (by kernel_rfl) ?_
          have hF1063 : Fr 171 [] [] a1061 := hF1062.reg; clear hF1062
          refine sqH ?_; intro hQ1064Q hQ1064
          refine s1 hF1063 6 (.int .i64 0) ?_; intro a1065 hF1066; clear hF1063
          refine s1 hF1066 7 (.int .i64 3) ?_; intro a1067 hF1068; clear hF1066
          refine nlH (hQ1064 _ _ ?_); clear hQ1064 hQ1064Q
          refine wp_ret ?_
          refine thr ?_
          refine rt (fn := Tryd.f13) (v := .tuple #[.int .i64 0, .int .i64 3]) hF1068 (re2 hF1068 (fn := Tryd.f13) rfl (by kernel_rfl) (by kernel_rfl)) ?_
          exact ⟨(0, 3), rfl, hp1048, hM333.below⟩
         ·
          have hp1069 := hp1014.2 hb1047; clear hp1014
          have hF1070 := hF1046.reval (d := 142) (c := []) (v := .bool (decide ((w64 ((w64 ((w64 (u1 - (w64 (u0.Add * u2)))).tdiv r171)).tdiv r261)) > (w64 (((boundsS u0).1).tdiv (w64 (x11.tdiv r216))))))) (by kernel_rfl) (.bool false) (by rw [hb1047]); clear hF1046
          have hF1071 := hF1070.setc (d := 143) (c := [6]) (v := .int .i64 (w64 ((w64 ((w64 (u1 - (w64 (u0.Add * u2)))).tdiv r171)).tdiv r261))) (by kernel_rfl) (v' := .int .i64 (w64 ((w64 ((w64 (u1 - (w64 (u0.Add * u2)))).tdiv r171)).tdiv r261))) (by rw [hb1047]; kernel_rfl); clear hF1070
          have hF1072 := hF1071.setc (d := 144) (c := [6]) (v := .bool (decide ((w64 ((w64 ((w64 (u1 - (w64 (u0.Add * u2)))).tdiv r171)).tdiv r261)) < 0))) (by kernel_rfl) (v' := .bool (decide ((w64 ((w64 ((w64 (u1 - (w64 (u0.Add * u2)))).tdiv r171)).tdiv r261)) < 0))) (by rw [hb1047]; kernel_rfl); clear hF1071
          have hF1073 := hF1072.setc (d := 145) (c := [6]) (v := .bool (decide ((w64 ((w64 ((w64 (u1 - (w64 (u0.Add * u2)))).tdiv r171)).tdiv r261)) < 0))) (by kernel_rfl) (v' := .bool (decide ((w64 ((w64 ((w64 (u1 - (w64 (u0.Add * u2)))).tdiv r171)).tdiv r261)) < 0))) (by rw [hb1047]; kernel_rfl); clear hF1072
          have hF1074 := hF1073.setc (d := 148) (c := [6]) (v := .bool ((decide ((w64 ((w64 ((w64 (u1 - (w64 (u0.Add * u2)))).tdiv r171)).tdiv r261)) < 0)) && (decide ((w64 (x11.tdiv r216)) < 0)))) (by kernel_rfl) (v' := .bool ((decide ((w64 ((w64 ((w64 (u1 - (w64 (u0.Add * u2)))).tdiv r171)).tdiv r261)) < 0)) && (decide ((w64 (x11.tdiv r216)) < 0)))) (by rw [hb1047]; kernel_rfl); clear hF1073
          have hF1075 := hF1074.setc (d := 149) (c := [6]) (v := .bool ((decide ((w64 ((w64 ((w64 (u1 - (w64 (u0.Add * u2)))).tdiv r171)).tdiv r261)) < 0)) && (decide ((w64 (x11.tdiv r216)) < 0)))) (by kernel_rfl) (v' := .bool ((decide ((w64 ((w64 ((w64 (u1 - (w64 (u0.Add * u2)))).tdiv r171)).tdiv r261)) < 0)) && (decide ((w64 (x11.tdiv r216)) < 0)))) (by rw [hb1047]; kernel_rfl); clear hF1074
          rcases Bool.eq_false_or_eq_true ((decide ((w64 ((w64 ((w64 (u1 - (w64 (u0.Add * u2)))).tdiv r171)).tdiv r261)) < 0)) && (decide ((w64 (x11.tdiv r216)) < 0))) with hb1076 | hb1076
          ·
           have hp1077 := hp1069.1 hb1076; clear hp1069
           have hF1078 := hF1075.reval (d := 149) (c := []) (v := .bool ((decide ((w64 ((w64 ((w64 (u1 - (w64 (u0.Add * u2)))).tdiv r171)).tdiv r261)) < 0)) && (decide ((w64 (x11.tdiv r216)) < 0)))) (by kernel_rfl) (.bool true) (by rw [hb1076]); clear hF1075
           have hF1079 := hF1078.setc (d := 150) (c := [7, 6]) (v := .int .i64 (w64 ((w64 ((w64 (u1 - (w64 (u0.Add * u2)))).tdiv r171)).tdiv r261))) (by kernel_rfl) (v' := .int .i64 (w64 ((w64 ((w64 (u1 - (w64 (u0.Add * u2)))).tdiv r171)).tdiv r261))) (by rw [hb1076, hb1047]; kernel_rfl); clear hF1078
           have hF1080 := hF1079.setc (d := 151) (c := [7, 6]) (v := .int .i64 ((boundsS u0).2)) (by kernel_rfl) (v' := .int .i64 ((boundsS u0).2)) (by rw [hb1076, hb1047]; kernel_rfl); clear hF1079
           have hF1081 := hF1080.setc (d := 152) (c := [7, 6]) (v := .int .i64 (w64 (x11.tdiv r216))) (by kernel_rfl) (v' := .int .i64 (w64 (x11.tdiv r216))) (by rw [hb1076, hb1047]; kernel_rfl); clear hF1080
           have hc1082 := hp1077.1; have hp1083 := hp1077.2; clear hp1077
           refine st hF1081 (.int .i64 (w64 (((boundsS u0).2).tdiv (w64 (x11.tdiv r216))))) (by rw [wanted_of hF1081 (b := true) rfl rfl (by kernel_rfl) (by kernel_rfl)]; rfl) rfl (by kernel_rfl) (quo_run hF1081 (g := []) rfl (by kernel_rfl) (by kernel_rfl) hc1082 rfl) ?_; intro a1084 hF1085; clear hF1081
           refine st hF1085 (.bool (decide ((w64 ((w64 ((w64 (u1 - (w64 (u0.Add * u2)))).tdiv r171)).tdiv r261)) < (w64 (((boundsS u0).2).tdiv (w64 (x11.tdiv r216))))))) (by rw [wanted_of hF1085 (b := true) rfl rfl (by kernel_rfl) (by kernel_rfl)]; rfl) rfl (by kernel_rfl) (p0 hF1085 (by kernel_rfl)) ?_; intro a1086 hF1087; clear hF1085
           refine st hF1087 (.bool (decide ((w64 ((w64 ((w64 (u1 - (w64 (u0.Add * u2)))).tdiv r171)).tdiv r261)) < (w64 (((boundsS u0).2).tdiv (w64 (x11.tdiv r216))))))) (by rw [wanted_of hF1087 (b := false) rfl rfl (by kernel_rfl) (by kernel_rfl)]; rfl) rfl (by kernel_rfl) (p0 hF1087 (by kernel_rfl)) ?_; intro a1088 hF1089; clear hF1087
           refine s1 hF1089 156 (.bool (decide ((w64 ((w64 ((w64 (u1 - (w64 (u0.Add * u2)))).tdiv r171)).tdiv r261)) < (w64 (((boundsS u0).2).tdiv (w64 (x11.tdiv r216))))))) ?_; intro a1090 hF1091; clear hF1089
           refine nlH (hQ344 _ _ ?_); clear hQ344 hQ344Q
           refine cd hF1091 (t := decide ((w64 ((w64 ((w64 (u1 - (w64 (u0.Add * u2)))).tdiv r171)).tdiv r261)) < (w64 (((boundsS u0).2).tdiv (w64 (x11.tdiv r216)))))) (by kernel_rfl) (fun hb1092 => ?_) (fun hb1092 => ?_)
           ·
            have hp1093 := hp1083.1 hb1092; clear hp1083
            have hF1094 : Fr 171 [] [] a1090 := hF1091.reg; clear hF1091
            refine sqH ?_; intro hQ1095Q hQ1095
            refine s1 hF1094 6 (.int .i64 0) ?_; intro a1096 hF1097; clear hF1094
            refine s1 hF1097 7 (.int .i64 3) ?_; intro a1098 hF1099; clear hF1097
            refine nlH (hQ1095 _ _ ?_); clear hQ1095 hQ1095Q
            refine wp_ret ?_
            refine thr ?_
            refine rt (fn := Tryd.f13) (v := .tuple #[.int .i64 0, .int .i64 3]) hF1099 (re2 hF1099 (fn := Tryd.f13) rfl (by kernel_rfl) (by kernel_rfl)) ?_
            exact ⟨(0, 3), rfl, hp1093, hM333.below⟩
           ·
            have hp1100 := hp1083.2 hb1092; clear hp1083
            refine wp_skip ?_
            refine thn ?_
            refine wp_seq ?_
            have hF1101 : Fr 171 [] [⟨9, [], .int .i64 (w64 ((w64 ((w64 (u1 - (w64 (u0.Add * u2)))).tdiv r171)).tdiv r261))⟩, ⟨11, [], .int .i64 (w64 (x11.tdiv r216))⟩, ⟨14, [], .int .i64 ((boundsS u0).1)⟩, ⟨15, [], .int .i64 ((boundsS u0).2)⟩] a1090 := hF1091.reg; clear hF1091
            refine sqH ?_; intro hQ1102Q hQ1102
            refine s1 hF1101 157 (.int .i64 (w64 ((w64 ((w64 (u1 - (w64 (u0.Add * u2)))).tdiv r171)).tdiv r261))) ?_; intro a1103 hF1104; clear hF1101
            refine s1 hF1104 158 (.int .i64 (w64 (x11.tdiv r216))) ?_; intro a1105 hF1106; clear hF1104
            refine s1 hF1106 159 (.int .i64 (w64 ((w64 ((w64 ((w64 (u1 - (w64 (u0.Add * u2)))).tdiv r171)).tdiv r261)) * (w64 (x11.tdiv r216))))) ?_; intro a1107 hF1108; clear hF1106
            refine s1 hF1108 16 (.int .i64 (w64 ((w64 ((w64 ((w64 (u1 - (w64 (u0.Add * u2)))).tdiv r171)).tdiv r261)) * (w64 (x11.tdiv r216))))) ?_; intro a1109 hF1110; clear hF1108
            refine nlH (hQ1102 _ _ ?_); clear hQ1102 hQ1102Q
            refine sqH ?_; intro hQ1111Q hQ1111
            refine s1 hF1110 160 (.int .i64 (w64 ((w64 ((w64 ((w64 (u1 - (w64 (u0.Add * u2)))).tdiv r171)).tdiv r261)) * (w64 (x11.tdiv r216))))) ?_; intro a1112 hF1113; clear hF1110
            refine s1 hF1113 161 (.int .i64 ((boundsS u0).1)) ?_; intro a1114 hF1115; clear hF1113
            refine s1 hF1115 162 (.bool (decide ((w64 ((w64 ((w64 ((w64 (u1 - (w64 (u0.Add * u2)))).tdiv r171)).tdiv r261)) * (w64 (x11.tdiv r216)))) < ((boundsS u0).1)))) ?_; intro a1116 hF1117; clear hF1115
            refine s1 hF1117 163 (.bool (decide ((w64 ((w64 ((w64 ((w64 (u1 - (w64 (u0.Add * u2)))).tdiv r171)).tdiv r261)) * (w64 (x11.tdiv r216)))) < ((boundsS u0).1)))) ?_; intro a1118 hF1119; clear hF1117
            have hF1120 := hF1119.atom ((decide ((w64 ((w64 ((w64 ((w64 (u1 - (w64 (u0.Add * u2)))).tdiv r171)).tdiv r261)) * (w64 (x11.tdiv r216)))) < ((boundsS u0).1))) == false) (by kernel_rfl); clear hF1119
            refine gp hF1120 164 0 [] (decide ((w64 ((w64 ((w64 ((w64 (u1 - (w64 (u0.Add * u2)))).tdiv r171)).tdiv r261)) * (w64 (x11.tdiv r216)))) < ((boundsS u0).1))) (.int .i64 (w64 ((w64 ((w64 ((w64 (u1 - (w64 (u0.Add * u2)))).tdiv r171)).tdiv r261)) * (w64 (x11.tdiv r216))))) rfl rfl ?_; intro a1121 hF1122; clear hF1120
            refine gp hF1122 165 0 [] (decide ((w64 ((w64 ((w64 ((w64 (u1 - (w64 (u0.Add * u2)))).tdiv r171)).tdiv r261)) * (w64 (x11.tdiv r216)))) < ((boundsS u0).1))) (.int .i64 ((boundsS u0).2)) rfl rfl ?_; intro a1123 hF1124; clear hF1122
            refine gp hF1124 166 0 [] (decide ((w64 ((w64 ((w64 ((w64 (u1 - (w64 (u0.Add * u2)))).tdiv r171)).tdiv r261)) * (w64 (x11.tdiv r216)))) < ((boundsS u0).1))) (.bool (decide ((w64 ((w64 ((w64 ((w64 (u1 - (w64 (u0.Add * u2)))).tdiv r171)).tdiv r261)) * (w64 (x11.tdiv r216)))) > ((boundsS u0).2)))) rfl rfl ?_; intro a1125 hF1126; clear hF1124
            refine st hF1126 (.bool ((decide ((w64 ((w64 ((w64 ((w64 (u1 - (w64 (u0.Add * u2)))).tdiv r171)).tdiv r261)) * (w64 (x11.tdiv r216)))) < ((boundsS u0).1))) || (decide ((w64 ((w64 ((w64 ((w64 (u1 - (w64 (u0.Add * u2)))).tdiv r171)).tdiv r261)) * (w64 (x11.tdiv r216)))) > ((boundsS u0).2))))) (nog rfl _) rfl (by kernel_rfl) (pk_or hF1126 (g := []) (m := 0) (b := decide ((w64 ((w64 ((w64 ((w64 (u1 - (w64 (u0.Add * u2)))).tdiv r171)).tdiv r261)) * (w64 (x11.tdiv r216)))) < ((boundsS u0).1))) (v := decide ((w64 ((w64 ((w64 ((w64 (u1 - (w64 (u0.Add * u2)))).tdiv r171)).tdiv r261)) * (w64 (x11.tdiv r216)))) > ((boundsS u0).2))) rfl (by kernel_rfl) (by kernel_rfl) (by kernel_rfl) rfl) ?_; intro a1127 hF1128; clear hF1126
            refine nlH (hQ1111 _ _ ?_); clear hQ1111 hQ1111Q
            refine cd hF1128 (t := (decide ((w64 ((w64 ((w64 ((w64 (u1 - (w64 (u0.Add * u2)))).tdiv r171)).tdiv r261)) * (w64 (x11.tdiv r216)))) < ((boundsS u0).1))) || (decide ((w64 ((w64 ((w64 ((w64 (u1 - (w64 (u0.Add * u2)))).tdiv r171)).tdiv r261)) * (w64 (x11.tdiv r216)))) > ((boundsS u0).2)))) (by kernel_rfl) (fun hb1129 => ?_) (fun hb1129 => ?_)
            ·
             have hp1130 := hp1100.1 hb1129; clear hp1100
             have hF1131 : Fr 171 [] [] a1127 := hF1128.reg; clear hF1128
             refine sqH ?_; intro hQ1132Q hQ1132
             refine s1 hF1131 6 (.int .i64 0) ?_; intro a1133 hF1134; clear hF1131
             refine s1 hF1134 7 (.int .i64 3) ?_; intro a1135 hF1136; clear hF1134
             refine nlH (hQ1132 _ _ ?_); clear hQ1132 hQ1132Q
             refine wp_ret ?_
             refine thr ?_
             refine rt (fn := Tryd.f13) (v := .tuple #[.int .i64 0, .int .i64 3]) hF1136 (re2 hF1136 (fn := Tryd.f13) rfl (by kernel_rfl) (by kernel_rfl)) ?_
             exact ⟨(0, 3), rfl, hp1130, hM333.below⟩
            ·
             have hp1137 := hp1100.2 hb1129; clear hp1100
             refine wp_skip ?_
             refine thn ?_
             have hF1138 : Fr 171 [] [⟨9, [], .int .i64 (w64 ((w64 ((w64 (u1 - (w64 (u0.Add * u2)))).tdiv r171)).tdiv r261))⟩, ⟨11, [], .int .i64 (w64 (x11.tdiv r216))⟩] a1127 := hF1128.reg; clear hF1128
             refine sqH ?_; intro hQ1139Q hQ1139
             refine s1 hF1138 168 (.int .i64 (w64 ((w64 ((w64 (u1 - (w64 (u0.Add * u2)))).tdiv r171)).tdiv r261))) ?_; intro a1140 hF1141; clear hF1138
             refine s1 hF1141 169 (.int .i64 (w64 (x11.tdiv r216))) ?_; intro a1142 hF1143; clear hF1141
             refine s1 hF1143 170 (.int .i64 (w64 ((w64 ((w64 ((w64 (u1 - (w64 (u0.Add * u2)))).tdiv r171)).tdiv r261)) * (w64 (x11.tdiv r216))))) ?_; intro a1144 hF1145; clear hF1143
             refine s1 hF1145 6 (.int .i64 (w64 ((w64 ((w64 ((w64 (u1 - (w64 (u0.Add * u2)))).tdiv r171)).tdiv r261)) * (w64 (x11.tdiv r216))))) ?_; intro a1146 hF1147; clear hF1145
             refine s1 hF1147 7 (.int .i64 0) ?_; intro a1148 hF1149; clear hF1147
             refine nlH (hQ1139 _ _ ?_); clear hQ1139 hQ1139Q
             refine wp_ret ?_
             refine rt (fn := Tryd.f13) (v := .tuple #[.int .i64 (w64 ((w64 ((w64 ((w64 (u1 - (w64 (u0.Add * u2)))).tdiv r171)).tdiv r261)) * (w64 (x11.tdiv r216)))), .int .i64 0]) hF1149 (re2 hF1149 (fn := Tryd.f13) rfl (by kernel_rfl) (by kernel_rfl)) ?_
             exact ⟨(w64 ((w64 ((w64 ((w64 (u1 - (w64 (u0.Add * u2)))).tdiv r171)).tdiv r261)) * (w64 (x11.tdiv r216))), 0), rfl, hp1137, hM333.below⟩
          ·
           have hp1150 := hp1069.2 hb1076; clear hp1069
           have hF1151 := hF1075.reval (d := 149) (c := []) (v := .bool ((decide ((w64 ((w64 ((w64 (u1 - (w64 (u0.Add * u2)))).tdiv r171)).tdiv r261)) < 0)) && (decide ((w64 (x11.tdiv r216)) < 0)))) (by kernel_rfl) (.bool false) (by rw [hb1076]); clear hF1075
           have hF1152 := hF1151.setc (d := 150) (c := [7, 6]) (v := .int .i64 (w64 ((w64 ((w64 (u1 - (w64 (u0.Add * u2)))).tdiv r171)).tdiv r261))) (by kernel_rfl) (v' := undef) (by rw [hb1076, hb1047]; kernel_rfl); clear hF1151
           have hF1153 := hF1152.setc (d := 151) (c := [7, 6]) (v := .int .i64 ((boundsS u0).2)) (by kernel_rfl) (v' := undef) (by rw [hb1076, hb1047]; kernel_rfl); clear hF1152
           have hF1154 := hF1153.setc (d := 152) (c := [7, 6]) (v := .int .i64 (w64 (x11.tdiv r216))) (by kernel_rfl) (v' := undef) (by rw [hb1076, hb1047]; kernel_rfl); clear hF1153
           refine sk hF1154 (b := false) rfl rfl (by kernel_rfl) (by kernel_rfl) rfl rfl (by kernel_rfl) ?_; intro a1155 hF1156; clear hF1154
           refine sk hF1156 (b := false) rfl rfl (by kernel_rfl) (by kernel_rfl) rfl rfl (by kernel_rfl) ?_; intro a1157 hF1158; clear hF1156
           refine st hF1158 (.bool false) (by rw [wanted_of hF1158 (b := false) rfl rfl (by kernel_rfl) (by kernel_rfl)]; rfl) rfl (by kernel_rfl) (p0 hF1158 (by kernel_rfl)) ?_; intro a1159 hF1160; clear hF1158
           refine s1 hF1160 156 (.bool false) ?_; intro a1161 hF1162; clear hF1160
           refine nlH (hQ344 _ _ ?_); clear hQ344 hQ344Q
           refine cdF hF1162 (by kernel_rfl) ?_
           refine wp_skip ?_
           refine thn ?_
           refine wp_seq ?_
           have hF1163 : Fr 171 [] [⟨9, [], .int .i64 (w64 ((w64 ((w64 (u1 - (w64 (u0.Add * u2)))).tdiv r171)).tdiv r261))⟩, ⟨11, [], .int .i64 (w64 (x11.tdiv r216))⟩, ⟨14, [], .int .i64 ((boundsS u0).1)⟩, ⟨15, [], .int .i64 ((boundsS u0).2)⟩] a1161 := hF1162.reg; clear hF1162
           refine sqH ?_; intro hQ1164Q hQ1164
           refine s1 hF1163 157 (.int .i64 (w64 ((w64 ((w64 (u1 - (w64 (u0.Add * u2)))).tdiv r171)).tdiv r261))) ?_; intro a1165 hF1166; clear hF1163
           refine s1 hF1166 158 (.int .i64 (w64 (x11.tdiv r216))) ?_; intro a1167 hF1168; clear hF1166
           refine s1 hF1168 159 (.int .i64 (w64 ((w64 ((w64 ((w64 (u1 - (w64 (u0.Add * u2)))).tdiv r171)).tdiv r261)) * (w64 (x11.tdiv r216))))) ?_; intro a1169 hF1170; clear hF1168
           refine s1 hF1170 16 (.int .i64 (w64 ((w64 ((w64 ((w64 (u1 - (w64 (u0.Add * u2)))).tdiv r171)).tdiv r261)) * (w64 (x11.tdiv r216))))) ?_; intro a1171 hF1172; clear hF1170
           refine nlH (hQ1164 _ _ ?_); clear hQ1164 hQ1164Q
           refine sqH ?_; intro hQ1173Q hQ1173
           refine s1 hF1172 160 (.int .i64 (w64 ((w64 ((w64 ((w64 (u1 - (w64 (u0.Add * u2)))).tdiv r171)).tdiv r261)) * (w64 (x11.tdiv r216))))) ?_; intro a1174 hF1175; clear hF1172
           refine s1 hF1175 161 (.int .i64 ((boundsS u0).1)) ?_; intro a1176 hF1177; clear hF1175
           refine s1 hF1177 162 (.bool (decide ((w64 ((w64 ((w64 ((w64 (u1 - (w64 (u0.Add * u2)))).tdiv r171)).tdiv r261)) * (w64 (x11.tdiv r216)))) < ((boundsS u0).1)))) ?_; intro a1178 hF1179; clear hF1177
           refine s1 hF1179 163 (.bool (decide ((w64 ((w64 ((w64 ((w64 (u1 - (w64 (u0.Add * u2)))).tdiv r171)).tdiv r261)) * (w64 (x11.tdiv r216)))) < ((boundsS u0).1)))) ?_; intro a1180 hF1181; clear hF1179
           have hF1182 := hF1181.atom ((decide ((w64 ((w64 ((w64 ((w64 (u1 - (w64 (u0.Add * u2)))).tdiv r171)).tdiv r261)) * (w64 (x11.tdiv r216)))) < ((boundsS u0).1))) == false) (by kernel_rfl); clear hF1181
           refine gp hF1182 164 0 [] (decide ((w64 ((w64 ((w64 ((w64 (u1 - (w64 (u0.Add * u2)))).tdiv r171)).tdiv r261)) * (w64 (x11.tdiv r216)))) < ((boundsS u0).1))) (.int .i64 (w64 ((w64 ((w64 ((w64 (u1 - (w64 (u0.Add * u2)))).tdiv r171)).tdiv r261)) * (w64 (x11.tdiv r216))))) rfl rfl ?_; intro a1183 hF1184; clear hF1182
           refine gp hF1184 165 0 [] (decide ((w64 ((w64 ((w64 ((w64 (u1 - (w64 (u0.Add * u2)))).tdiv r171)).tdiv r261)) * (w64 (x11.tdiv r216)))) < ((boundsS u0).1))) (.int .i64 ((boundsS u0).2)) rfl rfl ?_; intro a1185 hF1186; clear hF1184
           refine gp hF1186 166 0 [] (decide ((w64 ((w64 ((w64 ((w64 (u1 - (w64 (u0.Add * u2)))).tdiv r171)).tdiv r261)) * (w64 (x11.tdiv r216)))) < ((boundsS u0).1))) (.bool (decide ((w64 ((w64 ((w64 ((w64 (u1 - (w64 (u0.Add * u2)))).tdiv r171)).tdiv r261)) * (w64 (x11.tdiv r216)))) > ((boundsS u0).2)))) rfl rfl ?_; intro a1187 hF1188; clear hF1186
           refine st hF1188 (.bool ((decide ((w64 ((w64 ((w64 ((w64 (u1 - (w64 (u0.Add * u2)))).tdiv r171)).tdiv r261)) * (w64 (x11.tdiv r216)))) < ((boundsS u0).1))) || (decide ((w64 ((w64 ((w64 ((w64 (u1 - (w64 (u0.Add * u2)))).tdiv r171)).tdiv r261)) * (w64 (x11.tdiv r216)))) > ((boundsS u0).2))))) (nog rfl _) rfl (by kernel_rfl) (pk_or hF1188 (g := []) (m := 0) (b := decide ((w64 ((w64 ((w64 ((w64 (u1 - (w64 (u0.Add * u2)))).tdiv r171)).tdiv r261)) * (w64 (x11.tdiv r216)))) < ((boundsS u0).1))) (v := decide ((w64 ((w64 ((w64 ((w64 (u1 - (w64 (u0.Add * u2)))).tdiv r171)).tdiv r261)) * (w64 (x11.tdiv r216)))) > ((boundsS u0).2))) rfl (by kernel_rfl) (by kernel_rfl) (by kernel_rfl) rfl) ?_; intro a1189 hF1190; clear hF1188
           refine nlH (hQ1173 _ _ ?_); clear hQ1173 hQ1173Q
           refine cd hF1190 (t := (decide ((w64 ((w64 ((w64 ((w64 (u1 - (w64 (u0.Add * u2)))).tdiv r171)).tdiv r261)) * (w64 (x11.tdiv r216)))) < ((boundsS u0).1))) || (decide ((w64 ((w64 ((w64 ((w64 (u1 - (w64 (u0.Add * u2)))).tdiv r171)).tdiv r261)) * (w64 (x11.tdiv r216)))) > ((boundsS u0).2)))) (by kernel_rfl) (fun hb1191 => ?_) (fun hb1191 => ?_)
           ·
            have hp1192 := hp1150.1 hb1191; clear hp1150
            have hF1193 : Fr 171 [] [] a1189 := hF1190.reg; clear hF1190
            refine sqH ?_; intro hQ1194Q hQ1194
            refine s1 hF1193 6 (.int .i64 0) ?_; intro a1195 hF1196; clear hF1193
            refine s1 hF1196 7 (.int .i64 3) ?_; intro a1197 hF1198; clear hF1196
            refine nlH (hQ1194 _ _ ?_); clear hQ1194 hQ1194Q
            refine wp_ret ?_
            refine thr ?_
            refine rt (fn := Tryd.f13) (v := .tuple #[.int .i64 0, .int .i64 3]) hF1198 (re2 hF1198 (fn := Tryd.f13) rfl (by kernel_rfl) (by kernel_rfl)) ?_
            exact ⟨(0, 3), rfl, hp1192, hM333.below⟩
           ·
            have hp1199 := hp1150.2 hb1191; clear hp1150
            refine wp_skip ?_
            refine thn ?_
            have hF1200 : Fr 171 [] [⟨9, [], .int .i64 (w64 ((w64 ((w64 (u1 - (w64 (u0.Add * u2)))).tdiv r171)).tdiv r261))⟩, ⟨11, [], .int .i64 (w64 (x11.tdiv r216))⟩] a1189 := hF1190.reg; clear hF1190
            refine sqH ?_; intro hQ1201Q hQ1201
            refine s1 hF1200 168 (.int .i64 (w64 ((w64 ((w64 (u1 - (w64 (u0.Add * u2)))).tdiv r171)).tdiv r261))) ?_; intro a1202 hF1203; clear hF1200
            refine s1 hF1203 169 (.int .i64 (w64 (x11.tdiv r216))) ?_; intro a1204 hF1205; clear hF1203
            refine s1 hF1205 170 (.int .i64 (w64 ((w64 ((w64 ((w64 (u1 - (w64 (u0.Add * u2)))).tdiv r171)).tdiv r261)) * (w64 (x11.tdiv r216))))) ?_; intro a1206 hF1207; clear hF1205
            refine s1 hF1207 6 (.int .i64 (w64 ((w64 ((w64 ((w64 (u1 - (w64 (u0.Add * u2)))).tdiv r171)).tdiv r261)) * (w64 (x11.tdiv r216))))) ?_; intro a1208 hF1209; clear hF1207
            refine s1 hF1209 7 (.int .i64 0) ?_; intro a1210 hF1211; clear hF1209
            refine nlH (hQ1201 _ _ ?_); clear hQ1201 hQ1201Q
            refine wp_ret ?_
            refine rt (fn := Tryd.f13) (v := .tuple #[.int .i64 (w64 ((w64 ((w64 ((w64 (u1 - (w64 (u0.Add * u2)))).tdiv r171)).tdiv r261)) * (w64 (x11.tdiv r216)))), .int .i64 0]) hF1211 (re2 hF1211 (fn := Tryd.f13) rfl (by kernel_rfl) (by kernel_rfl)) ?_
            exact ⟨(w64 ((w64 ((w64 ((w64 (u1 - (w64 (u0.Add * u2)))).tdiv r171)).tdiv r261)) * (w64 (x11.tdiv r216))), 0), rfl, hp1199, hM333.below⟩
        ·
         have hp1212 := hp971.2 hb1007; clear hp971
         have hF1213 := hF1006.reval (d := 134) (c := []) (v := .bool ((decide ((w64 ((w64 ((w64 (u1 - (w64 (u0.Add * u2)))).tdiv r171)).tdiv r261)) > 0)) && (decide ((w64 (x11.tdiv r216)) < 0)))) (by kernel_rfl) (.bool false) (by rw [hb1007]); clear hF1006
         have hF1214 := hF1213.setc (d := 135) (c := [5]) (v := .int .i64 (w64 ((w64 ((w64 (u1 - (w64 (u0.Add * u2)))).tdiv r171)).tdiv r261))) (by kernel_rfl) (v' := undef) (by rw [hb1007]; kernel_rfl); clear hF1213
         have hF1215 := hF1214.setc (d := 136) (c := [5]) (v := .int .i64 ((boundsS u0).1)) (by kernel_rfl) (v' := undef) (by rw [hb1007]; kernel_rfl); clear hF1214
         have hF1216 := hF1215.setc (d := 137) (c := [5]) (v := .int .i64 (w64 (x11.tdiv r216))) (by kernel_rfl) (v' := undef) (by rw [hb1007]; kernel_rfl); clear hF1215
         refine sk hF1216 (b := false) rfl rfl (by kernel_rfl) (by kernel_rfl) rfl rfl (by kernel_rfl) ?_; intro a1217 hF1218; clear hF1216
         refine sk hF1218 (b := false) rfl rfl (by kernel_rfl) (by kernel_rfl) rfl rfl (by kernel_rfl) ?_; intro a1219 hF1220; clear hF1218
         refine st hF1220 (.bool false) (by rw [wanted_of hF1220 (b := false) rfl rfl (by kernel_rfl) (by kernel_rfl)]; rfl) rfl (by kernel_rfl) (p0 hF1220 (by kernel_rfl)) ?_; intro a1221 hF1222; clear hF1220
         refine s1 hF1222 141 (.bool false) ?_; intro a1223 hF1224; clear hF1222
         refine s1 hF1224 142 (.bool false) ?_; intro a1225 hF1226; clear hF1224
         refine st hF1226 (.int .i64 (w64 ((w64 ((w64 (u1 - (w64 (u0.Add * u2)))).tdiv r171)).tdiv r261))) (by rw [wanted_of hF1226 (b := false) rfl rfl (by kernel_rfl) (by kernel_rfl)]; rfl) rfl (by kernel_rfl) (p0 hF1226 (by kernel_rfl)) ?_; intro a1227 hF1228; clear hF1226
         refine st hF1228 (.bool (decide ((w64 ((w64 ((w64 (u1 - (w64 (u0.Add * u2)))).tdiv r171)).tdiv r261)) < 0))) (by rw [wanted_of hF1228 (b := false) rfl rfl (by kernel_rfl) (by kernel_rfl)]; rfl) rfl (by kernel_rfl) (p0 hF1228 (by kernel_rfl)) ?_; intro a1229 hF1230; clear hF1228
         refine st hF1230 (.bool (decide ((w64 ((w64 ((w64 (u1 - (w64 (u0.Add * u2)))).tdiv r171)).tdiv r261)) < 0))) (by rw [wanted_of hF1230 (b := false) rfl rfl (by kernel_rfl) (by kernel_rfl)]; rfl) rfl (by kernel_rfl) (p0 hF1230 (by kernel_rfl)) ?_; intro a1231 hF1232; clear hF1230
         refine gp hF1232 146 3 [] (decide ((w64 ((w64 ((w64 (u1 - (w64 (u0.Add * u2)))).tdiv r171)).tdiv r261)) < 0)) (.int .i64 (w64 (x11.tdiv r216))) rfl rfl ?_; intro a1233 hF1234; clear hF1232
         refine gp hF1234 147 3 [] (decide ((w64 ((w64 ((w64 (u1 - (w64 (u0.Add * u2)))).tdiv r171)).tdiv r261)) < 0)) (.bool (decide ((w64 (x11.tdiv r216)) < 0))) rfl rfl ?_; intro a1235 hF1236; clear hF1234
         refine st hF1236 (.bool ((decide ((w64 ((w64 ((w64 (u1 - (w64 (u0.Add * u2)))).tdiv r171)).tdiv r261)) < 0)) && (decide ((w64 (x11.tdiv r216)) < 0)))) (by rw [wanted_of hF1236 (b := false) rfl rfl (by kernel_rfl) (by kernel_rfl)]; rfl) rfl (by kernel_rfl) (pk_and hF1236 (g := []) (m := 3) (b := decide ((w64 ((w64 ((w64 (u1 - (w64 (u0.Add * u2)))).tdiv r171)).tdiv r261)) < 0)) (v := decide ((w64 (x11.tdiv r216)) < 0)) rfl (by kernel_rfl) (by kernel_rfl) (by kernel_rfl) rfl) ?_; intro a1237 hF1238; clear hF1236
         refine st hF1238 (.bool ((decide ((w64 ((w64 ((w64 (u1 - (w64 (u0.Add * u2)))).tdiv r171)).tdiv r261)) < 0)) && (decide ((w64 (x11.tdiv r216)) < 0)))) (by rw [wanted_of hF1238 (b := false) rfl rfl (by kernel_rfl) (by kernel_rfl)]; rfl) rfl (by kernel_rfl) (p0 hF1238 (by kernel_rfl)) ?_; intro a1239 hF1240; clear hF1238
         have hF1241 := hF1240.atom (((decide ((w64 ((w64 ((w64 (u1 - (w64 (u0.Add * u2)))).tdiv r171)).tdiv r261)) < 0)) && (decide ((w64 (x11.tdiv r216)) < 0))) == true) (by kernel_rfl); clear hF1240
         refine gp hF1241 150 6 [] ((decide ((w64 ((w64 ((w64 (u1 - (w64 (u0.Add * u2)))).tdiv r171)).tdiv r261)) < 0)) && (decide ((w64 (x11.tdiv r216)) < 0))) (.int .i64 (w64 ((w64 ((w64 (u1 - (w64 (u0.Add * u2)))).tdiv r171)).tdiv r261))) rfl rfl ?_; intro a1242 hF1243; clear hF1241
         refine gp hF1243 151 6 [] ((decide ((w64 ((w64 ((w64 (u1 - (w64 (u0.Add * u2)))).tdiv r171)).tdiv r261)) < 0)) && (decide ((w64 (x11.tdiv r216)) < 0))) (.int .i64 ((boundsS u0).2)) rfl rfl ?_; intro a1244 hF1245; clear hF1243
         refine gp hF1245 152 6 [] ((decide ((w64 ((w64 ((w64 (u1 - (w64 (u0.Add * u2)))).tdiv r171)).tdiv r261)) < 0)) && (decide ((w64 (x11.tdiv r216)) < 0))) (.int .i64 (w64 (x11.tdiv r216))) rfl rfl ?_; intro a1246 hF1247; clear hF1245
         rcases Bool.eq_false_or_eq_true ((decide ((w64 ((w64 ((w64 (u1 - (w64 (u0.Add * u2)))).tdiv r171)).tdiv r261)) < 0)) && (decide ((w64 (x11.tdiv r216)) < 0))) with hb1248 | hb1248
         ·
          have hp1249 := hp1212.1 hb1248; clear hp1212
          have hF1250 := hF1247.reval (d := 149) (c := []) (v := .bool ((decide ((w64 ((w64 ((w64 (u1 - (w64 (u0.Add * u2)))).tdiv r171)).tdiv r261)) < 0)) && (decide ((w64 (x11.tdiv r216)) < 0)))) (by kernel_rfl) (.bool true) (by rw [hb1248]); clear hF1247
          have hF1251 := hF1250.setc (d := 150) (c := [6]) (v := .int .i64 (w64 ((w64 ((w64 (u1 - (w64 (u0.Add * u2)))).tdiv r171)).tdiv r261))) (by kernel_rfl) (v' := .int .i64 (w64 ((w64 ((w64 (u1 - (w64 (u0.Add * u2)))).tdiv r171)).tdiv r261))) (by rw [hb1248]; kernel_rfl); clear hF1250
          have hF1252 := hF1251.setc (d := 151) (c := [6]) (v := .int .i64 ((boundsS u0).2)) (by kernel_rfl) (v' := .int .i64 ((boundsS u0).2)) (by rw [hb1248]; kernel_rfl); clear hF1251
          have hF1253 := hF1252.setc (d := 152) (c := [6]) (v := .int .i64 (w64 (x11.tdiv r216))) (by kernel_rfl) (v' := .int .i64 (w64 (x11.tdiv r216))) (by rw [hb1248]; kernel_rfl); clear hF1252
          have hc1254 := hp1249.1; have hp1255 := hp1249.2; clear hp1249
          refine st hF1253 (.int .i64 (w64 (((boundsS u0).2).tdiv (w64 (x11.tdiv r216))))) (by rw [wanted_of hF1253 (b := true) rfl rfl (by kernel_rfl) (by kernel_rfl)]; rfl) rfl (by kernel_rfl) (quo_run hF1253 (g := []) rfl (by kernel_rfl) (by kernel_rfl) hc1254 rfl) ?_; intro a1256 hF1257; clear hF1253
          refine st hF1257 (.bool (decide ((w64 ((w64 ((w64 (u1 - (w64 (u0.Add * u2)))).tdiv r171)).tdiv r261)) < (w64 (((boundsS u0).2).tdiv (w64 (x11.tdiv r216))))))) (by rw [wanted_of hF1257 (b := true) rfl rfl (by kernel_rfl) (by kernel_rfl)]; rfl) rfl (by kernel_rfl) (p0 hF1257 (by kernel_rfl)) ?_; intro a1258 hF1259; clear hF1257
          refine st hF1259 (.bool (decide ((w64 ((w64 ((w64 (u1 - (w64 (u0.Add * u2)))).tdiv r171)).tdiv r261)) < (w64 (((boundsS u0).2).tdiv (w64 (x11.tdiv r216))))))) (by rw [wanted_of hF1259 (b := false) rfl rfl (by kernel_rfl) (by kernel_rfl)]; rfl) rfl (by kernel_rfl) (p0 hF1259 (by kernel_rfl)) ?_; intro a1260 hF1261; clear hF1259
          refine s1 hF1261 156 (.bool (decide ((w64 ((w64 ((w64 (u1 - (w64 (u0.Add * u2)))).tdiv r171)).tdiv r261)) < (w64 (((boundsS u0).2).tdiv (w64 (x11.tdiv r216))))))) ?_; intro a1262 hF1263; clear hF1261
          refine nlH (hQ344 _ _ ?_); clear hQ344 hQ344Q
          refine cd hF1263 (t := decide ((w64 ((w64 ((w64 (u1 - (w64 (u0.Add * u2)))).tdiv r171)).tdiv r261)) < (w64 (((boundsS u0).2).tdiv (w64 (x11.tdiv r216)))))) (by kernel_rfl) (fun hb1264 => ?_) (fun hb1264 => ?_)
          ·
           have hp1265 := hp1255.1 hb1264; clear hp1255
           have hF1266 : Fr 171 [] [] a1262 := hF1263.reg; clear hF1263
           refine sqH ?_; intro hQ1267Q hQ1267
           refine s1 hF1266 6 (.int .i64 0) ?_; intro a1268 hF1269; clear hF1266
           refine s1 hF1269 7 (.int .i64 3) ?_; intro a1270 hF1271; clear hF1269
           refine nlH (hQ1267 _ _ ?_); clear hQ1267 hQ1267Q
           refine wp_ret ?_
           refine thr ?_
           refine rt (fn := Tryd.f13) (v := .tuple #[.int .i64 0, .int .i64 3]) hF1271 (re2 hF1271 (fn := Tryd.f13) rfl (by kernel_rfl) (by kernel_rfl)) ?_
           exact ⟨(0, 3), rfl, hp1265, hM333.below⟩
          ·
           have hp1272 := hp1255.2 hb1264; clear hp1255
           refine wp_skip ?_
           refine thn ?_
           refine wp_seq ?_
           have hF1273 : Fr 171 [] [⟨9, [], .int .i64 (w64 ((w64 ((w64 (u1 - (w64 (u0.Add * u2)))).tdiv r171)).tdiv r261))⟩, ⟨11, [], .int .i64 (w64 (x11.tdiv r216))⟩, ⟨14, [], .int .i64 ((boundsS u0).1)⟩, ⟨15, [], .int .i64 ((boundsS u0).2)⟩] a1262 := hF1263.reg; clear hF1263
           refine sqH ?_; intro hQ1274Q hQ1274
           refine s1 hF1273 157 (.int .i64 (w64 ((w64 ((w64 (u1 - (w64 (u0.Add * u2)))).tdiv r171)).tdiv r261))) ?_; intro a1275 hF1276; clear hF1273
           refine s1 hF1276 158 (.int .i64 (w64 (x11.tdiv r216))) ?_; intro a1277 hF1278; clear hF1276
           refine s1 hF1278 159 (.int .i64 (w64 ((w64 ((w64 ((w64 (u1 - (w64 (u0.Add * u2)))).tdiv r171)).tdiv r261)) * (w64 (x11.tdiv r216))))) ?_; intro a1279 hF1280; clear hF1278
           refine s1 hF1280 16 (.int .i64 (w64 ((w64 ((w64 ((w64 (u1 - (w64 (u0.Add * u2)))).tdiv r171)).tdiv r261)) * (w64 (x11.tdiv r216))))) ?_; intro a1281 hF1282; clear hF1280
           refine nlH (hQ1274 _ _ ?_); clear hQ1274 hQ1274Q
           refine sqH ?_; intro hQ1283Q hQ1283
           refine s1 hF1282 160 (.int .i64 (w64 ((w64 ((w64 ((w64 (u1 - (w64 (u0.Add * u2)))).tdiv r171)).tdiv r261)) * (w64 (x11.tdiv r216))))) ?_; intro a1284 hF1285; clear hF1282
           refine s1 hF1285 161 (.int .i64 ((boundsS u0).1)) ?_; intro a1286 hF1287; clear hF1285
           refine s1 hF1287 162 (.bool (decide ((w64 ((w64 ((w64 ((w64 (u1 - (w64 (u0.Add * u2)))).tdiv r171)).tdiv r261)) * (w64 (x11.tdiv r216)))) < ((boundsS u0).1)))) ?_; intro a1288 hF1289; clear hF1287
           refine s1 hF1289 163 (.bool (decide ((w64 ((w64 ((w64 ((w64 (u1 - (w64 (u0.Add * u2)))).tdiv r171)).tdiv r261)) * (w64 (x11.tdiv r216)))) < ((boundsS u0).1)))) ?_; intro a1290 hF1291; clear hF1289
           have hF1292 := hF1291.atom ((decide ((w64 ((w64 ((w64 ((w64 (u1 - (w64 (u0.Add * u2)))).tdiv r171)).tdiv r261)) * (w64 (x11.tdiv r216)))) < ((boundsS u0).1))) == false) (by kernel_rfl); clear hF1291
           refine gp hF1292 164 0 [] (decide ((w64 ((w64 ((w64 ((w64 (u1 - (w64 (u0.Add * u2)))).tdiv r171)).tdiv r261)) * (w64 (x11.tdiv r216)))) < ((boundsS u0).1))) (.int .i64 (w64 ((w64 ((w64 ((w64 (u1 - (w64 (u0.Add * u2)))).tdiv r171)).tdiv r261)) * (w64 (x11.tdiv r216))))) rfl rfl ?_; intro a1293 hF1294; clear hF1292
           refine gp hF1294 165 0 [] (decide ((w64 ((w64 ((w64 ((w64 (u1 - (w64 (u0.Add * u2)))).tdiv r171)).tdiv r261)) * (w64 (x11.tdiv r216)))) < ((boundsS u0).1))) (.int .i64 ((boundsS u0).2)) rfl rfl ?_; intro a1295 hF1296; clear hF1294
           refine gp hF1296 166 0 [] (decide ((w64 ((w64 ((w64 ((w64 (u1 - (w64 (u0.Add * u2)))).tdiv r171)).tdiv r261)) * (w64 (x11.tdiv r216)))) < ((boundsS u0).1))) (.bool (decide ((w64 ((w64 ((w64 ((w64 (u1 - (w64 (u0.Add * u2)))).tdiv r171)).tdiv r261)) * (w64 (x11.tdiv r216)))) > ((boundsS u0).2)))) rfl rfl ?_; intro a1297 hF1298; clear hF1296
           refine st hF1298 (.bool ((decide ((w64 ((w64 ((w64 ((w64 (u1 - (w64 (u0.Add * u2)))).tdiv r171)).tdiv r261)) * (w64 (x11.tdiv r216)))) < ((boundsS u0).1))) || (decide ((w64 ((w64 ((w64 ((w64 (u1 - (w64 (u0.Add * u2)))).tdiv r171)).tdiv r261)) * (w64 (x11.tdiv r216)))) > ((boundsS u0).2))))) (nog rfl _) rfl (by kernel_rfl) (pk_or hF1298 (g := []) (m := 0) (b := decide ((w64 ((w64 ((w64 ((w64 (u1 - (w64 (u0.Add * u2)))).tdiv r171)).tdiv r261)) * (w64 (x11.tdiv r216)))) < ((boundsS u0).1))) (v := decide ((w64 ((w64 ((w64 ((w64 (u1 - (w64 (u0.Add * u2)))).tdiv r171)).tdiv r261)) * (w64 (x11.tdiv r216)))) > ((boundsS u0).2))) rfl (by kernel_rfl) (by kernel_rfl) (by kernel_rfl) rfl) ?_; intro a1299 hF1300; clear hF1298
           refine nlH (hQ1283 _ _ ?_); clear hQ1283 hQ1283Q
           refine cd hF1300 (t := (decide ((w64 ((w64 ((w64 ((w64 (u1 - (w64 (u0.Add * u2)))).tdiv r171)).tdiv r261)) * (w64 (x11.tdiv r216)))) < ((boundsS u0).1))) || (decide ((w64 ((w64 ((w64 ((w64 (u1 - (w64 (u0.Add * u2)))).tdiv r171)).tdiv r261)) * (w64 (x11.tdiv r216)))) > ((boundsS u0).2)))) (by kernel_rfl) (fun hb1301 => ?_) (fun hb1301 => ?_)
           ·
            have hp1302 := hp1272.1 hb1301; clear hp1272
            have hF1303 : Fr 171 [] [] a1299 := hF1300.reg; clear hF1300
            refine sqH ?_; intro hQ1304Q hQ1304
            refine s1 hF1303 6 (.int .i64 0) ?_; intro a1305 hF1306; clear hF1303
            refine s1 hF1306 7 (.int .i64 3) ?_; intro a1307 hF1308; clear hF1306
            refine nlH (hQ1304 _ _ ?_); clear hQ1304 hQ1304Q
            refine wp_ret ?_
            refine thr ?_
            refine rt (fn := Tryd.f13) (v := .tuple #[.int .i64 0, .int .i64 3]) hF1308 (re2 hF1308 (fn := Tryd.f13) rfl (by kernel_rfl) (by kernel_rfl)) ?_
            exact ⟨(0, 3), rfl, hp1302, hM333.below⟩
           ·
            have hp1309 := hp1272.2 hb1301; clear hp1272
            refine wp_skip ?_
            refine thn ?_
            have hF1310 : Fr 171 [] [⟨9, [], .int .i64 (w64 ((w64 ((w64 (u1 - (w64 (u0.Add * u2)))).tdiv r171)).tdiv r261))⟩, ⟨11, [], .int .i64 (w64 (x11.tdiv r216))⟩] a1299 := hF1300.reg; clear hF1300
            refine sqH ?_; intro hQ1311Q hQ1311
            refine s1 hF1310 168 (.int .i64 (w64 ((w64 ((w64 (u1 - (w64 (u0.Add * u2)))).tdiv r171)).tdiv r261))) ?_; intro a1312 hF1313; clear hF1310
            refine s1 hF1313 169 (.int .i64 (w64 (x11.tdiv r216))) ?_; intro a1314 hF1315; clear hF1313
            refine s1 hF1315 170 (.int .i64 (w64 ((w64 ((w64 ((w64 (u1 - (w64 (u0.Add * u2)))).tdiv r171)).tdiv r261)) * (w64 (x11.tdiv r216))))) ?_; intro a1316 hF1317; clear hF1315
            refine s1 hF1317 6 (.int .i64 (w64 ((w64 ((w64 ((w64 (u1 - (w64 (u0.Add * u2)))).tdiv r171)).tdiv r261)) * (w64 (x11.tdiv r216))))) ?_; intro a1318 hF1319; clear hF1317
            refine s1 hF1319 7 (.int .i64 0) ?_; intro a1320 hF1321; clear hF1319
            refine nlH (hQ1311 _ _ ?_); clear hQ1311 hQ1311Q
            refine wp_ret ?_
            refine rt (fn := Tryd.f13) (v := .tuple #[.int .i64 (w64 ((w64 ((w64 ((w64 (u1 - (w64 (u0.Add * u2)))).tdiv r171)).tdiv r261)) * (w64 (x11.tdiv r216)))), .int .i64 0]) hF1321 (re2 hF1321 (fn := Tryd.f13) rfl (by kernel_rfl) (by kernel_rfl)) ?_
            exact ⟨(w64 ((w64 ((w64 ((w64 (u1 - (w64 (u0.Add * u2)))).tdiv r171)).tdiv r261)) * (w64 (x11.tdiv r216))), 0), rfl, hp1309, hM333.below⟩
         ·
          have hp1322 := hp1212.2 hb1248; clear hp1212
          have hF1323 := hF1247.reval (d := 149) (c := []) (v := .bool ((decide ((w64 ((w64 ((w64 (u1 - (w64 (u0.Add * u2)))).tdiv r171)).tdiv r261)) < 0)) && (decide ((w64 (x11.tdiv r216)) < 0)))) (by kernel_rfl) (.bool false) (by rw [hb1248]); clear hF1247
          have hF1324 := hF1323.setc (d := 150) (c := [6]) (v := .int .i64 (w64 ((w64 ((w64 (u1 - (w64 (u0.Add * u2)))).tdiv r171)).tdiv r261))) (by kernel_rfl) (v' := undef) (by rw [hb1248]; kernel_rfl); clear hF1323
          have hF1325 := hF1324.setc (d := 151) (c := [6]) (v := .int .i64 ((boundsS u0).2)) (by kernel_rfl) (v' := undef) (by rw [hb1248]; kernel_rfl); clear hF1324
          have hF1326 := hF1325.setc (d := 152) (c := [6]) (v := .int .i64 (w64 (x11.tdiv r216))) (by kernel_rfl) (v' := undef) (by rw [hb1248]; kernel_rfl); clear hF1325
          refine sk hF1326 (b := false) rfl rfl (by kernel_rfl) (by kernel_rfl) rfl rfl (by kernel_rfl) ?_; intro a1327 hF1328; clear hF1326
          refine sk hF1328 (b := false) rfl rfl (by kernel_rfl) (by kernel_rfl) rfl rfl (by kernel_rfl) ?_; intro a1329 hF1330; clear hF1328
          refine st hF1330 (.bool false) (by rw [wanted_of hF1330 (b := false) rfl rfl (by kernel_rfl) (by kernel_rfl)]; rfl) rfl (by kernel_rfl) (p0 hF1330 (by kernel_rfl)) ?_; intro a1331 hF1332; clear hF1330
          refine s1 hF1332 156 (.bool false) ?_; intro a1333 hF1334; clear hF1332
          refine nlH (hQ344 _ _ ?_); clear hQ344 hQ344Q
          refine cdF hF1334 (by kernel_rfl) ?_
          refine wp_skip ?_
          refine thn ?_
          refine wp_seq ?_
          have hF1335 : Fr 171 [] [⟨9, [], .int .i64 (w64 ((w64 ((w64 (u1 - (w64 (u0.Add * u2)))).tdiv r171)).tdiv r261))⟩, ⟨11, [], .int .i64 (w64 (x11.tdiv r216))⟩, ⟨14, [], .int .i64 ((boundsS u0).1)⟩, ⟨15, [], .int .i64 ((boundsS u0).2)⟩] a1333 := hF1334.reg; clear hF1334
          refine sqH ?_; intro hQ1336Q hQ1336
          refine s1 hF1335 157 (.int .i64 (w64 ((w64 ((w64 (u1 - (w64 (u0.Add * u2)))).tdiv r171)).tdiv r261))) ?_; intro a1337 hF1338; clear hF1335
          refine s1 hF1338 158 (.int .i64 (w64 (x11.tdiv r216))) ?_; intro a1339 hF1340; clear hF1338
          refine s1 hF1340 159 (.int .i64 (w64 ((w64 ((w64 ((w64 (u1 - (w64 (u0.Add * u2)))).tdiv r171)).tdiv r261)) * (w64 (x11.tdiv r216))))) ?_; intro a1341 hF1342; clear hF1340
          refine s1 hF1342 16 (.int .i64 (w64 ((w64 ((w64 ((w64 (u1 - (w64 (u0.Add * u2)))).tdiv r171)).tdiv r261)) * (w64 (x11.tdiv r216))))) ?_; intro a1343 hF1344; clear hF1342
          refine nlH (hQ1336 _ _ ?_); clear hQ1336 hQ1336Q
          refine sqH ?_; intro hQ1345Q hQ1345
          refine s1 hF1344 160 (.int .i64 (w64 ((w64 ((w64 ((w64 (u1 - (w64 (u0.Add * u2)))).tdiv r171)).tdiv r261)) * (w64 (x11.tdiv r216))))) ?_; intro a1346 hF1347; clear hF1344
          refine s1 hF1347 161 (.int .i64 ((boundsS u0).1)) ?_; intro a1348 hF1349; clear hF1347
          refine s1 hF1349 162 (.bool (decide ((w64 ((w64 ((w64 ((w64 (u1 - (w64 (u0.Add * u2)))).tdiv r171)).tdiv r261)) * (w64 (x11.tdiv r216)))) < ((boundsS u0).1)))) ?_; intro a1350 hF1351; clear hF1349
          refine s1 hF1351 163 (.bool (decide ((w64 ((w64 ((w64 ((w64 (u1 - (w64 (u0.Add * u2)))).tdiv r171)).tdiv r261)) * (w64 (x11.tdiv r216)))) < ((boundsS u0).1)))) ?_; intro a1352 hF1353; clear hF1351
          have hF1354 := hF1353.atom ((decide ((w64 ((w64 ((w64 ((w64 (u1 - (w64 (u0.Add * u2)))).tdiv r171)).tdiv r261)) * (w64 (x11.tdiv r216)))) < ((boundsS u0).1))) == false) (by kernel_rfl); clear hF1353
          refine gp hF1354 164 0 [] (decide ((w64 ((w64 ((w64 ((w64 (u1 - (w64 (u0.Add * u2)))).tdiv r171)).tdiv r261)) * (w64 (x11.tdiv r216)))) < ((boundsS u0).1))) (.int .i64 (w64 ((w64 ((w64 ((w64 (u1 - (w64 (u0.Add * u2)))).tdiv r171)).tdiv r261)) * (w64 (x11.tdiv r216))))) rfl rfl ?_; intro a1355 hF1356; clear hF1354
          refine gp hF1356 165 0 [] (decide ((w64 ((w64 ((w64 ((w64 (u1 - (w64 (u0.Add * u2)))).tdiv r171)).tdiv r261)) * (w64 (x11.tdiv r216)))) < ((boundsS u0).1))) (.int .i64 ((boundsS u0).2)) rfl rfl ?_; intro a1357 hF1358; clear hF1356
          refine gp hF1358 166 0 [] (decide ((w64 ((w64 ((w64 ((w64 (u1 - (w64 (u0.Add * u2)))).tdiv r171)).tdiv r261)) * (w64 (x11.tdiv r216)))) < ((boundsS u0).1))) (.bool (decide ((w64 ((w64 ((w64 ((w64 (u1 - (w64 (u0.Add * u2)))).tdiv r171)).tdiv r261)) * (w64 (x11.tdiv r216)))) > ((boundsS u0).2)))) rfl rfl ?_; intro a1359 hF1360; clear hF1358
          refine st hF1360 (.bool ((decide ((w64 ((w64 ((w64 ((w64 (u1 - (w64 (u0.Add * u2)))).tdiv r171)).tdiv r261)) * (w64 (x11.tdiv r216)))) < ((boundsS u0).1))) || (decide ((w64 ((w64 ((w64 ((w64 (u1 - (w64 (u0.Add * u2)))).tdiv r171)).tdiv r261)) * (w64 (x11.tdiv r216)))) > ((boundsS u0).2))))) (nog rfl _) rfl (by kernel_rfl) (pk_or hF1360 (g := []) (m := 0) (b := decide ((w64 ((w64 ((w64 ((w64 (u1 - (w64 (u0.Add * u2)))).tdiv r171)).tdiv r261)) * (w64 (x11.tdiv r216)))) < ((boundsS u0).1))) (v := decide ((w64 ((w64 ((w64 ((w64 (u1 - (w64 (u0.Add * u2)))).tdiv r171)).tdiv r261)) * (w64 (x11.tdiv r216)))) > ((boundsS u0).2))) rfl (by kernel_rfl) (by kernel_rfl) (by kernel_rfl) rfl) ?_; intro a1361 hF1362; clear hF1360
          refine nlH (hQ1345 _ _ ?_); clear hQ1345 hQ1345Q
          refine cd hF1362 (t := (decide ((w64 ((w64 ((w64 ((w64 (u1 - (w64 (u0.Add * u2)))).tdiv r171)).tdiv r261)) * (w64 (x11.tdiv r216)))) < ((boundsS u0).1))) || (decide ((w64 ((w64 ((w64 ((w64 (u1 - (w64 (u0.Add * u2)))).tdiv r171)).tdiv r261)) * (w64 (x11.tdiv r216)))) > ((boundsS u0).2)))) (by kernel_rfl) (fun hb1363 => ?_) (fun hb1363 => ?_)
          ·
           have hp1364 := hp1322.1 hb1363; clear hp1322
           have hF1365 : Fr 171 [] [] a1361 := hF1362.reg; clear hF1362
           refine sqH ?_; intro hQ1366Q hQ1366
           refine s1 hF1365 6 (.int .i64 0) ?_; intro a1367 hF1368; clear hF1365
           refine s1 hF1368 7 (.int .i64 3) ?_; intro a1369 hF1370; clear hF1368
           refine nlH (hQ1366 _ _ ?_); clear hQ1366 hQ1366Q
           refine wp_ret ?_
           refine thr ?_
           refine rt (fn := Tryd.f13) (v := .tuple #[.int .i64 0, .int .i64 3]) hF1370 (re2 hF1370 (fn := Tryd.f13) rfl (by kernel_rfl) (by kernel_rfl)) ?_
           exact ⟨(0, 3), rfl, hp1364, hM333.below⟩
          ·
           have hp1371 := hp1322.2 hb1363; clear hp1322
           refine wp_skip ?_
           refine thn ?_
           have hF1372 : Fr 171 [] [⟨9, [], .int .i64 (w64 ((w64 ((w64 (u1 - (w64 (u0.Add * u2)))).tdiv r171)).tdiv r261))⟩, ⟨11, [], .int .i64 (w64 (x11.tdiv r216))⟩] a1361 := hF1362.reg; clear hF1362
           refine sqH ?_; intro hQ1373Q hQ1373
           refine s1 hF1372 168 (.int .i64 (w64 ((w64 ((w64 (u1 - (w64 (u0.Add * u2)))).tdiv r171)).tdiv r261))) ?_; intro a1374 hF1375; clear hF1372
           refine s1 hF1375 169 (.int .i64 (w64 (x11.tdiv r216))) ?_; intro a1376 hF1377; clear hF1375
           refine s1 hF1377 170 (.int .i64 (w64 ((w64 ((w64 ((w64 (u1 - (w64 (u0.Add * u2)))).tdiv r171)).tdiv r261)) * (w64 (x11.tdiv r216))))) ?_; intro a1378 hF1379; clear hF1377
           refine s1 hF1379 6 (.int .i64 (w64 ((w64 ((w64 ((w64 (u1 - (w64 (u0.Add * u2)))).tdiv r171)).tdiv r261)) * (w64 (x11.tdiv r216))))) ?_; intro a1380 hF1381; clear hF1379
           refine s1 hF1381 7 (.int .i64 0) ?_; intro a1382 hF1383; clear hF1381
           refine nlH (hQ1373 _ _ ?_); clear hQ1373 hQ1373Q
           refine wp_ret ?_
           refine rt (fn := Tryd.f13) (v := .tuple #[.int .i64 (w64 ((w64 ((w64 ((w64 (u1 - (w64 (u0.Add * u2)))).tdiv r171)).tdiv r261)) * (w64 (x11.tdiv r216)))), .int .i64 0]) hF1383 (re2 hF1383 (fn := Tryd.f13) rfl (by kernel_rfl) (by kernel_rfl)) ?_
           exact ⟨(w64 ((w64 ((w64 ((w64 (u1 - (w64 (u0.Add * u2)))).tdiv r171)).tdiv r261)) * (w64 (x11.tdiv r216))), 0), rfl, hp1371, hM333.below⟩
     ·
      have hp1384 := hp329.2 hb367; clear hp329
      have hF1385 := hF366.reval (d := 105) (c := []) (v := .bool ((decide ((w64 ((w64 ((w64 (u1 - (w64 (u0.Add * u2)))).tdiv r171)).tdiv r261)) > 0)) && (decide ((w64 (x11.tdiv r216)) > 0)))) (by kernel_rfl) (.bool false) (by rw [hb367]); clear hF366
      have hF1386 := hF1385.setc (d := 106) (c := [1]) (v := .int .i64 (w64 ((w64 ((w64 (u1 - (w64 (u0.Add * u2)))).tdiv r171)).tdiv r261))) (by kernel_rfl) (v' := undef) (by rw [hb367]; kernel_rfl); clear hF1385
      have hF1387 := hF1386.setc (d := 107) (c := [1]) (v := .int .i64 ((boundsS u0).2)) (by kernel_rfl) (v' := undef) (by rw [hb367]; kernel_rfl); clear hF1386
      have hF1388 := hF1387.setc (d := 108) (c := [1]) (v := .int .i64 (w64 (x11.tdiv r216))) (by kernel_rfl) (v' := undef) (by rw [hb367]; kernel_rfl); clear hF1387
      refine sk hF1388 (b := false) rfl rfl (by kernel_rfl) (by kernel_rfl) rfl rfl (by kernel_rfl) ?_; intro a1389 hF1390; clear hF1388
      refine sk hF1390 (b := false) rfl rfl (by kernel_rfl) (by kernel_rfl) rfl rfl (by kernel_rfl) ?_; intro a1391 hF1392; clear hF1390
      refine s1 hF1392 111 (.bool false) ?_; intro a1393 hF1394; clear hF1392
      refine s1 hF1394 112 (.bool false) ?_; intro a1395 hF1396; clear hF1394
      refine st hF1396 (.int .i64 (w64 ((w64 ((w64 (u1 - (w64 (u0.Add * u2)))).tdiv r171)).tdiv r261))) (by rw [wanted_of hF1396 (b := false) rfl rfl (by kernel_rfl) (by kernel_rfl)]; rfl) rfl (by kernel_rfl) (p0 hF1396 (by kernel_rfl)) ?_; intro a1397 hF1398; clear hF1396
      refine st hF1398 (.bool (decide ((w64 ((w64 ((w64 (u1 - (w64 (u0.Add * u2)))).tdiv r171)).tdiv r261)) < 0))) (by rw [wanted_of hF1398 (b := false) rfl rfl (by kernel_rfl) (by kernel_rfl)]; rfl) rfl (by kernel_rfl) (p0 hF1398 (by kernel_rfl)) ?_; intro a1399 hF1400; clear hF1398
      refine st hF1400 (.bool (decide ((w64 ((w64 ((w64 (u1 - (w64 (u0.Add * u2)))).tdiv r171)).tdiv r261)) < 0))) (by rw [wanted_of hF1400 (b := false) rfl rfl (by kernel_rfl) (by kernel_rfl)]; rfl) rfl (by kernel_rfl) (p0 hF1400 (by kernel_rfl)) ?_; intro a1401 hF1402; clear hF1400
      have hF1403 := hF1402.atom ((decide ((w64 ((w64 ((w64 (u1 - (w64 (u0.Add * u2)))).tdiv r171)).tdiv r261)) < 0)) == true) (by kernel_rfl); clear hF1402
      refine gp hF1403 116 2 [] (decide ((w64 ((w64 ((w64 (u1 - (w64 (u0.Add * u2)))).tdiv r171)).tdiv r261)) < 0)) (.int .i64 (w64 (x11.tdiv r216))) rfl rfl ?_; intro a1404 hF1405; clear hF1403
      refine gp hF1405 117 2 [] (decide ((w64 ((w64 ((w64 (u1 - (w64 (u0.Add * u2)))).tdiv r171)).tdiv r261)) < 0)) (.bool (decide ((w64 (x11.tdiv r216)) > 0))) rfl rfl ?_; intro a1406 hF1407; clear hF1405
      refine st hF1407 (.bool ((decide ((w64 ((w64 ((w64 (u1 - (w64 (u0.Add * u2)))).tdiv r171)).tdiv r261)) < 0)) && (decide ((w64 (x11.tdiv r216)) > 0)))) (by rw [wanted_of hF1407 (b := false) rfl rfl (by kernel_rfl) (by kernel_rfl)]; rfl) rfl (by kernel_rfl) (pk_and hF1407 (g := []) (m := 2) (b := decide ((w64 ((w64 ((w64 (u1 - (w64 (u0.Add * u2)))).tdiv r171)).tdiv r261)) < 0)) (v := decide ((w64 (x11.tdiv r216)) > 0)) rfl (by kernel_rfl) (by kernel_rfl) (by kernel_rfl) rfl) ?_; intro a1408 hF1409; clear hF1407
      refine st hF1409 (.bool ((decide ((w64 ((w64 ((w64 (u1 - (w64 (u0.Add * u2)))).tdiv r171)).tdiv r261)) < 0)) && (decide ((w64 (x11.tdiv r216)) > 0)))) (by rw [wanted_of hF1409 (b := false) rfl rfl (by kernel_rfl) (by kernel_rfl)]; rfl) rfl (by kernel_rfl) (p0 hF1409 (by kernel_rfl)) ?_; intro a1410 hF1411; clear hF1409
      have hF1412 := hF1411.atom (((decide ((w64 ((w64 ((w64 (u1 - (w64 (u0.Add * u2)))).tdiv r171)).tdiv r261)) < 0)) && (decide ((w64 (x11.tdiv r216)) > 0))) == true) (by kernel_rfl); clear hF1411
      refine gp hF1412 120 3 [] ((decide ((w64 ((w64 ((w64 (u1 - (w64 (u0.Add * u2)))).tdiv r171)).tdiv r261)) < 0)) && (decide ((w64 (x11.tdiv r216)) > 0))) (.int .i64 (w64 ((w64 ((w64 (u1 - (w64 (u0.Add * u2)))).tdiv r171)).tdiv r261))) rfl rfl ?_; intro a1413 hF1414; clear hF1412
      refine gp hF1414 121 3 [] ((decide ((w64 ((w64 ((w64 (u1 - (w64 (u0.Add * u2)))).tdiv r171)).tdiv r261)) < 0)) && (decide ((w64 (x11.tdiv r216)) > 0))) (.int .i64 ((boundsS u0).1)) rfl rfl ?_; intro a1415 hF1416; clear hF1414
      refine gp hF1416 122 3 [] ((decide ((w64 ((w64 ((w64 (u1 - (w64 (u0.Add * u2)))).tdiv r171)).tdiv r261)) < 0)) && (decide ((w64 (x11.tdiv r216)) > 0))) (.int .i64 (w64 (x11.tdiv r216))) rfl rfl ?_; intro a1417 hF1418; clear hF1416
      rcases Bool.eq_false_or_eq_true ((decide ((w64 ((w64 ((w64 (u1 - (w64 (u0.Add * u2)))).tdiv r171)).tdiv r261)) < 0)) && (decide ((w64 (x11.tdiv r216)) > 0))) with hb1419 | hb1419
      ·
       have hp1420 := hp1384.1 hb1419; clear hp1384
       have hF1421 := hF1418.reval (d := 119) (c := []) (v := .bool ((decide ((w64 ((w64 ((w64 (u1 - (w64 (u0.Add * u2)))).tdiv r171)).tdiv r261)) < 0)) && (decide ((w64 (x11.tdiv r216)) > 0)))) (by kernel_rfl) (.bool true) (by rw [hb1419]); clear hF1418
       have hF1422 := hF1421.setc (d := 120) (c := [3]) (v := .int .i64 (w64 ((w64 ((w64 (u1 - (w64 (u0.Add * u2)))).tdiv r171)).tdiv r261))) (by kernel_rfl) (v' := .int .i64 (w64 ((w64 ((w64 (u1 - (w64 (u0.Add * u2)))).tdiv r171)).tdiv r261))) (by rw [hb1419]; kernel_rfl); clear hF1421
       have hF1423 := hF1422.setc (d := 121) (c := [3]) (v := .int .i64 ((boundsS u0).1)) (by kernel_rfl) (v' := .int .i64 ((boundsS u0).1)) (by rw [hb1419]; kernel_rfl); clear hF1422
       have hF1424 := hF1423.setc (d := 122) (c := [3]) (v := .int .i64 (w64 (x11.tdiv r216))) (by kernel_rfl) (v' := .int .i64 (w64 (x11.tdiv r216))) (by rw [hb1419]; kernel_rfl); clear hF1423
       have hc1425 := hp1420.1; have hp1426 := hp1420.2; clear hp1420
       refine st hF1424 (.int .i64 (w64 (((boundsS u0).1).tdiv (w64 (x11.tdiv r216))))) (by rw [wanted_of hF1424 (b := true) rfl rfl (by kernel_rfl) (by kernel_rfl)]; rfl) rfl (by kernel_rfl) (quo_run hF1424 (g := []) rfl (by kernel_rfl) (by kernel_rfl) hc1425 rfl) ?_; intro a1427 hF1428; clear hF1424
       refine st hF1428 (.bool (decide ((w64 ((w64 ((w64 (u1 - (w64 (u0.Add * u2)))).tdiv r171)).tdiv r261)) < (w64 (((boundsS u0).1).tdiv (w64 (x11.tdiv r216))))))) (by rw [wanted_of hF1428 (b := true) rfl rfl (by kernel_rfl) (by kernel_rfl)]; rfl) rfl (by kernel_rfl) (p0 hF1428 (by kernel_rfl)) ?_; intro a1429 hF1430; clear hF1428
       refine st hF1430 (.bool (decide ((w64 ((w64 ((w64 (u1 - (w64 (u0.Add * u2)))).tdiv r171)).tdiv r261)) < (w64 (((boundsS u0).1).tdiv (w64 (x11.tdiv r216))))))) (by rw [wanted_of hF1430 (b := false) rfl rfl (by kernel_rfl) (by kernel_rfl)]; rfl) rfl (by kernel_rfl) (p0 hF1430 (by kernel_rfl)) ?_; intro a1431 hF1432; clear hF1430
       refine s1 hF1432 126 (.bool (decide ((w64 ((w64 ((w64 (u1 - (w64 (u0.Add * u2)))).tdiv r171)).tdiv r261)) < (w64 (((boundsS u0).1).tdiv (w64 (x11.tdiv r216))))))) ?_; intro a1433 hF1434; clear hF1432
       refine s1 hF1434 127 (.bool (decide ((w64 ((w64 ((w64 (u1 - (w64 (u0.Add * u2)))).tdiv r171)).tdiv r261)) < (w64 (((boundsS u0).1).tdiv (w64 (x11.tdiv r216))))))) ?_; intro a1435 hF1436; clear hF1434
       have hF1437 := hF1436.atom ((decide ((w64 ((w64 ((w64 (u1 - (w64 (u0.Add * u2)))).tdiv r171)).tdiv r261)) < (w64 (((boundsS u0).1).tdiv (w64 (x11.tdiv r216)))))) == false) (by kernel_rfl); clear hF1436
       refine gp hF1437 128 4 [] (decide ((w64 ((w64 ((w64 (u1 - (w64 (u0.Add * u2)))).tdiv r171)).tdiv r261)) < (w64 (((boundsS u0).1).tdiv (w64 (x11.tdiv r216)))))) (.int .i64 (w64 ((w64 ((w64 (u1 - (w64 (u0.Add * u2)))).tdiv r171)).tdiv r261))) rfl rfl ?_; intro a1438 hF1439; clear hF1437
       refine gp hF1439 129 4 [] (decide ((w64 ((w64 ((w64 (u1 - (w64 (u0.Add * u2)))).tdiv r171)).tdiv r261)) < (w64 (((boundsS u0).1).tdiv (w64 (x11.tdiv r216)))))) (.bool (decide ((w64 ((w64 ((w64 (u1 - (w64 (u0.Add * u2)))).tdiv r171)).tdiv r261)) > 0))) rfl rfl ?_; intro a1440 hF1441; clear hF1439
       refine gp hF1441 130 4 [] (decide ((w64 ((w64 ((w64 (u1 - (w64 (u0.Add * u2)))).tdiv r171)).tdiv r261)) < (w64 (((boundsS u0).1).tdiv (w64 (x11.tdiv r216)))))) (.bool (decide ((w64 ((w64 ((w64 (u1 - (w64 (u0.Add * u2)))).tdiv r171)).tdiv r261)) > 0))) rfl rfl ?_; intro a1442 hF1443; clear hF1441
       refine gp hF1443 131 0 [4] (decide ((w64 ((w64 ((w64 (u1 - (w64 (u0.Add * u2)))).tdiv r171)).tdiv r261)) > 0)) (.int .i64 (w64 (x11.tdiv r216))) rfl rfl ?_; intro a1444 hF1445; clear hF1443
       refine gp hF1445 132 0 [4] (decide ((w64 ((w64 ((w64 (u1 - (w64 (u0.Add * u2)))).tdiv r171)).tdiv r261)) > 0)) (.bool (decide ((w64 (x11.tdiv r216)) < 0))) rfl rfl ?_; intro a1446 hF1447; clear hF1445
       refine gd hF1447 (.bool ((decide ((w64 ((w64 ((w64 (u1 - (w64 (u0.Add * u2)))).tdiv r171)).tdiv r261)) > 0)) && (decide ((w64 (x11.tdiv r216)) < 0)))) (m := 4) (cj := []) (bj := decide ((w64 ((w64 ((w64 (u1 - (w64 (u0.Add * u2)))).tdiv r171)).tdiv r261)) < (w64 (((boundsS u0).1).tdiv (w64 (x11.tdiv r216)))))) rfl rfl (by kernel_rfl) rfl (by kernel_rfl) (by kernel_rfl) (by kernel_rfl) (fun hg => pk_and hF1447 (g := [4]) (m := 0) (b := decide ((w64 ((w64 ((w64 (u1 - (w64 (u0.Add * u2)))).tdiv r171)).tdiv r261)) > 0)) (v := decide ((w64 (x11.tdiv r216)) < 0)) rfl (by kernel_rfl) (by kernel_rfl) (by kernel_rfl) hg) ?_; intro a1448 hF1449; clear hF1447
       refine gp hF1449 134 4 [] (decide ((w64 ((w64 ((w64 (u1 - (w64 (u0.Add * u2)))).tdiv r171)).tdiv r261)) < (w64 (((boundsS u0).1).tdiv (w64 (x11.tdiv r216)))))) (.bool ((decide ((w64 ((w64 ((w64 (u1 - (w64 (u0.Add * u2)))).tdiv r171)).tdiv r261)) > 0)) && (decide ((w64 (x11.tdiv r216)) < 0)))) rfl rfl ?_; intro a1450 hF1451; clear hF1449
       have hF1452 := hF1451.atom (((decide ((w64 ((w64 ((w64 (u1 - (w64 (u0.Add * u2)))).tdiv r171)).tdiv r261)) > 0)) && (decide ((w64 (x11.tdiv r216)) < 0))) == true) (by kernel_rfl); clear hF1451
       refine gp hF1452 135 5 [4] ((decide ((w64 ((w64 ((w64 (u1 - (w64 (u0.Add * u2)))).tdiv r171)).tdiv r261)) > 0)) && (decide ((w64 (x11.tdiv r216)) < 0))) (.int .i64 (w64 ((w64 ((w64 (u1 - (w64 (u0.Add * u2)))).tdiv r171)).tdiv r261))) rfl rfl ?_; intro a1453 hF1454; clear hF1452
       refine gp hF1454 136 5 [4] ((decide ((w64 ((w64 ((w64 (u1 - (w64 (u0.Add * u2)))).tdiv r171)).tdiv r261)) > 0)) && (decide ((w64 (x11.tdiv r216)) < 0))) (.int .i64 ((boundsS u0).1)) rfl rfl ?_; intro a1455 hF1456; clear hF1454
       refine gp hF1456 137 5 [4] ((decide ((w64 ((w64 ((w64 (u1 - (w64 (u0.Add * u2)))).tdiv r171)).tdiv r261)) > 0)) && (decide ((w64 (x11.tdiv r216)) < 0))) (.int .i64 (w64 (x11.tdiv r216))) rfl rfl ?_; intro a1457 hF1458; clear hF1456
       rcases Bool.eq_false_or_eq_true (decide ((w64 ((w64 ((w64 (u1 - (w64 (u0.Add * u2)))).tdiv r171)).tdiv r261)) < (w64 (((boundsS u0).1).tdiv (w64 (x11.tdiv r216)))))) with hb1459 | hb1459
       ·
        have hp1460 := hp1426.1 hb1459; clear hp1426
        have hF1461 := hF1458.reval (d := 127) (c := []) (v := .bool (decide ((w64 ((w64 ((w64 (u1 - (w64 (u0.Add * u2)))).tdiv r171)).tdiv r261)) < (w64 (((boundsS u0).1).tdiv (w64 (x11.tdiv r216))))))) (by kernel_rfl) (.bool true) (by rw [hb1459]); clear hF1458
        have hF1462 := hF1461.setc (d := 128) (c := [4]) (v := .int .i64 (w64 ((w64 ((w64 (u1 - (w64 (u0.Add * u2)))).tdiv r171)).tdiv r261))) (by kernel_rfl) (v' := undef) (by rw [hb1459]; kernel_rfl); clear hF1461
        have hF1463 := hF1462.setc (d := 129) (c := [4]) (v := .bool (decide ((w64 ((w64 ((w64 (u1 - (w64 (u0.Add * u2)))).tdiv r171)).tdiv r261)) > 0))) (by kernel_rfl) (v' := undef) (by rw [hb1459]; kernel_rfl); clear hF1462
        have hF1464 := hF1463.setc (d := 130) (c := [4]) (v := .bool (decide ((w64 ((w64 ((w64 (u1 - (w64 (u0.Add * u2)))).tdiv r171)).tdiv r261)) > 0))) (by kernel_rfl) (v' := undef) (by rw [hb1459]; kernel_rfl); clear hF1463
        have hF1465 := hF1464.setc (d := 133) (c := [4]) (v := .bool ((decide ((w64 ((w64 ((w64 (u1 - (w64 (u0.Add * u2)))).tdiv r171)).tdiv r261)) > 0)) && (decide ((w64 (x11.tdiv r216)) < 0)))) (by kernel_rfl) (v' := undef) (by rw [hb1459]; kernel_rfl); clear hF1464
        have hF1466 := hF1465.setc (d := 134) (c := [4]) (v := .bool ((decide ((w64 ((w64 ((w64 (u1 - (w64 (u0.Add * u2)))).tdiv r171)).tdiv r261)) > 0)) && (decide ((w64 (x11.tdiv r216)) < 0)))) (by kernel_rfl) (v' := undef) (by rw [hb1459]; kernel_rfl); clear hF1465
        refine sku hF1466 rfl rfl (by kernel_rfl) (by kernel_rfl) rfl (by kernel_rfl) ?_; intro a1467 hF1468; clear hF1466
        refine sku hF1468 rfl rfl (by kernel_rfl) (by kernel_rfl) rfl (by kernel_rfl) ?_; intro a1469 hF1470; clear hF1468
        refine sk hF1470 (b := true) rfl rfl (by kernel_rfl) (by kernel_rfl) rfl rfl (by kernel_rfl) ?_; intro a1471 hF1472; clear hF1470
        refine s1 hF1472 141 (.bool true) ?_; intro a1473 hF1474; clear hF1472
        refine s1 hF1474 142 (.bool true) ?_; intro a1475 hF1476; clear hF1474
        refine sk hF1476 (b := true) rfl rfl (by kernel_rfl) (by kernel_rfl) rfl rfl (by kernel_rfl) ?_; intro a1477 hF1478; clear hF1476
        refine sk hF1478 (b := true) rfl rfl (by kernel_rfl) (by kernel_rfl) rfl rfl (by kernel_rfl) ?_; intro a1479 hF1480; clear hF1478
        refine sk hF1480 (b := true) rfl rfl (by kernel_rfl) (by kernel_rfl) rfl rfl (by kernel_rfl) ?_; intro a1481 hF1482; clear hF1480
        refine sku hF1482 rfl rfl (by kernel_rfl) (by kernel_rfl) rfl (by kernel_rfl) ?_; intro a1483 hF1484; clear hF1482
        refine sku hF1484 rfl rfl (by kernel_rfl) (by kernel_rfl) rfl (by kernel_rfl) ?_; intro a1485 hF1486; clear hF1484
        refine sk hF1486 (b := true) rfl rfl (by kernel_rfl) (by kernel_rfl) rfl rfl (by kernel_rfl) ?_; intro a1487 hF1488; clear hF1486
        refine sk hF1488 (b := true) rfl rfl (by kernel_rfl) (by kernel_rfl) rfl rfl (by kernel_rfl) ?_; intro a1489 hF1490; clear hF1488
        refine sku hF1490 rfl rfl (by kernel_rfl) (by kernel_rfl) rfl (by kernel_rfl) ?_; intro a1491 hF1492; clear hF1490
        refine sku hF1492 rfl rfl (by kernel_rfl) (by kernel_rfl) rfl (by kernel_rfl) ?_; intro a1493 hF1494; clear hF1492
        refine sku hF1494 rfl rfl (by kernel_rfl) (by kernel_rfl) rfl (by kernel_rfl) ?_; intro a1495 hF1496; clear hF1494
        refine sku hF1496 rfl rfl (by kernel_rfl) (by kernel_rfl) rfl (by kernel_rfl) ?_; intro a1497 hF1498; clear hF1496
        refine sku hF1498 rfl rfl (by kernel_rfl) (by kernel_rfl) rfl (by kernel_rfl) ?_; intro a1499 hF1500; clear hF1498
        refine sk hF1500 (b := true) rfl rfl (by kernel_rfl) (by kernel_rfl) rfl rfl (by kernel_rfl) ?_; intro a1501 hF1502; clear hF1500
        refine s1 hF1502 156 (.bool true) ?_; intro a1503 hF1504; clear hF1502
        refine nlH (hQ344 _ _ ?_); clear hQ344 hQ344Q
        refine cdT hF1504 (by kernel_rfl) ?_
        have hF1505 : Fr 171 [] [] a1503 := hF1504.reg; clear hF1504
        refine sqH ?_; intro hQ1506Q hQ1506
        refine s1 hF1505 6 (.int .i64 0) ?_; intro a1507 hF1508; clear hF1505
        refine s1 hF1508 7 (.int .i64 3) ?_; intro a1509 hF1510; clear hF1508
        refine nlH (hQ1506 _ _ ?_); clear hQ1506 hQ1506Q
        refine wp_ret ?_
        refine thr ?_
        refine rt (fn := Tryd.f13) (v := .tuple #[.int .i64 0, .int .i64 3]) hF1510 (re2 hF1510 (fn := Tryd.f13) rfl (by kernel_rfl) (by kernel_rfl)) ?_
        exact ⟨(0, 3), rfl, hp1460, hM333.below⟩
       ·
        have hp1511 := hp1426.2 hb1459; clear hp1426
        have hF1512 := hF1458.reval (d := 127) (c := []) (v := .bool (decide ((w64 ((w64 ((w64 (u1 - (w64 (u0.Add * u2)))).tdiv r171)).tdiv r261)) < (w64 (((boundsS u0).1).tdiv (w64 (x11.tdiv r216))))))) (by kernel_rfl) (.bool false) (by rw [hb1459]); clear hF1458
        have hF1513 := hF1512.setc (d := 128) (c := [4]) (v := .int .i64 (w64 ((w64 ((w64 (u1 - (w64 (u0.Add * u2)))).tdiv r171)).tdiv r261))) (by kernel_rfl) (v' := .int .i64 (w64 ((w64 ((w64 (u1 - (w64 (u0.Add * u2)))).tdiv r171)).tdiv r261))) (by rw [hb1459]; kernel_rfl); clear hF1512
        have hF1514 := hF1513.setc (d := 129) (c := [4]) (v := .bool (decide ((w64 ((w64 ((w64 (u1 - (w64 (u0.Add * u2)))).tdiv r171)).tdiv r261)) > 0))) (by kernel_rfl) (v' := .bool (decide ((w64 ((w64 ((w64 (u1 - (w64 (u0.Add * u2)))).tdiv r171)).tdiv r261)) > 0))) (by rw [hb1459]; kernel_rfl); clear hF1513
        have hF1515 := hF1514.setc (d := 130) (c := [4]) (v := .bool (decide ((w64 ((w64 ((w64 (u1 - (w64 (u0.Add * u2)))).tdiv r171)).tdiv r261)) > 0))) (by kernel_rfl) (v' := .bool (decide ((w64 ((w64 ((w64 (u1 - (w64 (u0.Add * u2)))).tdiv r171)).tdiv r261)) > 0))) (by rw [hb1459]; kernel_rfl); clear hF1514
        have hF1516 := hF1515.setc (d := 133) (c := [4]) (v := .bool ((decide ((w64 ((w64 ((w64 (u1 - (w64 (u0.Add * u2)))).tdiv r171)).tdiv r261)) > 0)) && (decide ((w64 (x11.tdiv r216)) < 0)))) (by kernel_rfl) (v' := .bool ((decide ((w64 ((w64 ((w64 (u1 - (w64 (u0.Add * u2)))).tdiv r171)).tdiv r261)) > 0)) && (decide ((w64 (x11.tdiv r216)) < 0)))) (by rw [hb1459]; kernel_rfl); clear hF1515
        have hF1517 := hF1516.setc (d := 134) (c := [4]) (v := .bool ((decide ((w64 ((w64 ((w64 (u1 - (w64 (u0.Add * u2)))).tdiv r171)).tdiv r261)) > 0)) && (decide ((w64 (x11.tdiv r216)) < 0)))) (by kernel_rfl) (v' := .bool ((decide ((w64 ((w64 ((w64 (u1 - (w64 (u0.Add * u2)))).tdiv r171)).tdiv r261)) > 0)) && (decide ((w64 (x11.tdiv r216)) < 0)))) (by rw [hb1459]; kernel_rfl); clear hF1516
        rcases Bool.eq_false_or_eq_true ((decide ((w64 ((w64 ((w64 (u1 - (w64 (u0.Add * u2)))).tdiv r171)).tdiv r261)) > 0)) && (decide ((w64 (x11.tdiv r216)) < 0))) with hb1518 | hb1518
        ·
         have hp1519 := hp1511.1 hb1518; clear hp1511
         have hF1520 := hF1517.reval (d := 134) (c := []) (v := .bool ((decide ((w64 ((w64 ((w64 (u1 - (w64 (u0.Add * u2)))).tdiv r171)).tdiv r261)) > 0)) && (decide ((w64 (x11.tdiv r216)) < 0)))) (by kernel_rfl) (.bool true) (by rw [hb1518]); clear hF1517
         have hF1521 := hF1520.setc (d := 135) (c := [5, 4]) (v := .int .i64 (w64 ((w64 ((w64 (u1 - (w64 (u0.Add * u2)))).tdiv r171)).tdiv r261))) (by kernel_rfl) (v' := .int .i64 (w64 ((w64 ((w64 (u1 - (w64 (u0.Add * u2)))).tdiv r171)).tdiv r261))) (by rw [hb1518, hb1459]; kernel_rfl); clear hF1520
         have hF1522 := hF1521.setc (d := 136) (c := [5, 4]) (v := .int .i64 ((boundsS u0).1)) (by kernel_rfl) (v' := .int .i64 ((boundsS u0).1)) (by rw [hb1518, hb1459]; kernel_rfl); clear hF1521
         have hF1523 := hF1522.setc (d := 137) (c := [5, 4]) (v := .int .i64 (w64 (x11.tdiv r216))) (by kernel_rfl) (v' := .int .i64 (w64 (x11.tdiv r216))) (by rw [hb1518, hb1459]; kernel_rfl); clear hF1522
         have hc1524 := hp1519.1; have hp1525 := hp1519.2; clear hp1519
         refine st hF1523 (.int .i64 (w64 (((boundsS u0).1).tdiv (w64 (x11.tdiv r216))))) (by rw [wanted_of hF1523 (b := true) rfl rfl (by kernel_rfl) (by kernel_rfl)]; rfl) rfl (by kernel_rfl) (quo_run hF1523 (g := []) rfl (by kernel_rfl) (by kernel_rfl) hc1524 rfl) ?_; intro a1526 hF1527; clear hF1523
         refine st hF1527 (.bool (decide ((w64 ((w64 ((w64 (u1 - (w64 (u0.Add * u2)))).tdiv r171)).tdiv r261)) > (w64 (((boundsS u0).1).tdiv (w64 (x11.tdiv r216))))))) (by rw [wanted_of hF1527 (b := true) rfl rfl (by kernel_rfl) (by kernel_rfl)]; rfl) rfl (by kernel_rfl) (p0 hF1527 (by kernel_rfl)) ?_; intro a1528 hF1529; clear hF1527
         refine st hF1529 (.bool (decide ((w64 ((w64 ((w64 (u1 - (w64 (u0.Add * u2)))).tdiv r171)).tdiv r261)) > (w64 (((boundsS u0).1).tdiv (w64 (x11.tdiv r216))))))) (by rw [wanted_of hF1529 (b := false) rfl rfl (by kernel_rfl) (by kernel_rfl)]; rfl) rfl (by kernel_rfl) (p0 hF1529 (by kernel_rfl)) ?_; intro a1530 hF1531; clear hF1529
         refine s1 hF1531 141 (.bool (decide ((w64 ((w64 ((w64 (u1 - (w64 (u0.Add * u2)))).tdiv r171)).tdiv r261)) > (w64 (((boundsS u0).1).tdiv (w64 (x11.tdiv r216))))))) ?_; intro a1532 hF1533; clear hF1531
         refine s1 hF1533 142 (.bool (decide ((w64 ((w64 ((w64 (u1 - (w64 (u0.Add * u2)))).tdiv r171)).tdiv r261)) > (w64 (((boundsS u0).1).tdiv (w64 (x11.tdiv r216))))))) ?_; intro a1534 hF1535; clear hF1533
         have hF1536 := hF1535.atom ((decide ((w64 ((w64 ((w64 (u1 - (w64 (u0.Add * u2)))).tdiv r171)).tdiv r261)) > (w64 (((boundsS u0).1).tdiv (w64 (x11.tdiv r216)))))) == false) (by kernel_rfl); clear hF1535
         refine gp hF1536 143 6 [] (decide ((w64 ((w64 ((w64 (u1 - (w64 (u0.Add * u2)))).tdiv r171)).tdiv r261)) > (w64 (((boundsS u0).1).tdiv (w64 (x11.tdiv r216)))))) (.int .i64 (w64 ((w64 ((w64 (u1 - (w64 (u0.Add * u2)))).tdiv r171)).tdiv r261))) rfl rfl ?_; intro a1537 hF1538; clear hF1536
         refine gp hF1538 144 6 [] (decide ((w64 ((w64 ((w64 (u1 - (w64 (u0.Add * u2)))).tdiv r171)).tdiv r261)) > (w64 (((boundsS u0).1).tdiv (w64 (x11.tdiv r216)))))) (.bool (decide ((w64 ((w64 ((w64 (u1 - (w64 (u0.Add * u2)))).tdiv r171)).tdiv r261)) < 0))) rfl rfl ?_; intro a1539 hF1540; clear hF1538
         refine gp hF1540 145 6 [] (decide ((w64 ((w64 ((w64 (u1 - (w64 (u0.Add * u2)))).tdiv r171)).tdiv r261)) > (w64 (((boundsS u0).1).tdiv (w64 (x11.tdiv r216)))))) (.bool (decide ((w64 ((w64 ((w64 (u1 - (w64 (u0.Add * u2)))).tdiv r171)).tdiv r261)) < 0))) rfl rfl ?_; intro a1541 hF1542; clear hF1540
         refine gp hF1542 146 2 [6] (decide ((w64 ((w64 ((w64 (u1 - (w64 (u0.Add * u2)))).tdiv r171)).tdiv r261)) < 0)) (.int .i64 (w64 (x11.tdiv r216))) rfl rfl ?_; intro a1543 hF1544; clear hF1542
         refine gp hF1544 147 2 [6] (decide ((w64 ((w64 ((w64 (u1 - (w64 (u0.Add * u2)))).tdiv r171)).tdiv r261)) < 0)) (.bool (decide ((w64 (x11.tdiv r216)) < 0))) rfl rfl ?_; intro a1545 hF1546; clear hF1544
         refine gd hF1546 (.bool ((decide ((w64 ((w64 ((w64 (u1 - (w64 (u0.Add * u2)))).tdiv r171)).tdiv r261)) < 0)) && (decide ((w64 (x11.tdiv r216)) < 0)))) (m := 6) (cj := []) (bj := decide ((w64 ((w64 ((w64 (u1 - (w64 (u0.Add * u2)))).tdiv r171)).tdiv r261)) > (w64 (((boundsS u0).1).tdiv (w64 (x11.tdiv r216)))))) rfl rfl (by kernel_rfl) rfl (by kernel_rfl) (by kernel_rfl) (by kernel_rfl) (fun hg => pk_and hF1546 (g := [6]) (m := 2) (b := decide ((w64 ((w64 ((w64 (u1 - (w64 (u0.Add * u2)))).tdiv r171)).tdiv r261)) < 0)) (v := decide ((w64 (x11.tdiv r216)) < 0)) rfl (by kernel_rfl) (by kernel_rfl) (by kernel_rfl) hg) ?_; intro a1547 hF1548; clear hF1546
         refine gp hF1548 149 6 [] (decide ((w64 ((w64 ((w64 (u1 - (w64 (u0.Add * u2)))).tdiv r171)).tdiv r261)) > (w64 (((boundsS u0).1).tdiv (w64 (x11.tdiv r216)))))) (.bool ((decide ((w64 ((w64 ((w64 (u1 - (w64 (u0.Add * u2)))).tdiv r171)).tdiv r261)) < 0)) && (decide ((w64 (x11.tdiv r216)) < 0)))) rfl rfl ?_; intro a1549 hF1550; clear hF1548
         have hF1551 := hF1550.atom (((decide ((w64 ((w64 ((w64 (u1 - (w64 (u0.Add * u2)))).tdiv r171)).tdiv r261)) < 0)) && (decide ((w64 (x11.tdiv r216)) < 0))) == true) (by kernel_rfl); clear hF1550
         refine gp hF1551 150 7 [6] ((decide ((w64 ((w64 ((w64 (u1 - (w64 (u0.Add * u2)))).tdiv r171)).tdiv r261)) < 0)) && (decide ((w64 (x11.tdiv r216)) < 0))) (.int .i64 (w64 ((w64 ((w64 (u1 - (w64 (u0.Add * u2)))).tdiv r171)).tdiv r261))) rfl rfl ?_; intro a1552 hF1553; clear hF1551
         refine gp hF1553 151 7 [6] ((decide ((w64 ((w64 ((w64 (u1 - (w64 (u0.Add * u2)))).tdiv r171)).tdiv r261)) < 0)) && (decide ((w64 (x11.tdiv r216)) < 0))) (.int .i64 ((boundsS u0).2)) rfl rfl ?_; intro a1554 hF1555; clear hF1553
         refine gp hF1555 152 7 [6] ((decide ((w64 ((w64 ((w64 (u1 - (w64 (u0.Add * u2)))).tdiv r171)).tdiv r261)) < 0)) && (decide ((w64 (x11.tdiv r216)) < 0))) (.int .i64 (w64 (x11.tdiv r216))) rfl rfl ?_; intro a1556 hF1557; clear hF1555
         rcases Bool.eq_false_or_eq_true (decide ((w64 ((w64 ((w64 (u1 - (w64 (u0.Add * u2)))).tdiv r171)).tdiv r261)) > (w64 (((boundsS u0).1).tdiv (w64 (x11.tdiv r216)))))) with hb1558 | hb1558
         ·
          have hp1559 := hp1525.1 hb1558; clear hp1525
          have hF1560 := hF1557.reval (d := 142) (c := []) (v := .bool (decide ((w64 ((w64 ((w64 (u1 - (w64 (u0.Add * u2)))).tdiv r171)).tdiv r261)) > (w64 (((boundsS u0).1).tdiv (w64 (x11.tdiv r216))))))) (by kernel_rfl) (.bool true) (by rw [hb1558]); clear hF1557
          have hF1561 := hF1560.setc (d := 143) (c := [6]) (v := .int .i64 (w64 ((w64 ((w64 (u1 - (w64 (u0.Add * u2)))).tdiv r171)).tdiv r261))) (by kernel_rfl) (v' := undef) (by rw [hb1558]; kernel_rfl); clear hF1560
          have hF1562 := hF1561.setc (d := 144) (c := [6]) (v := .bool (decide ((w64 ((w64 ((w64 (u1 - (w64 (u0.Add * u2)))).tdiv r171)).tdiv r261)) < 0))) (by kernel_rfl) (v' := undef) (by rw [hb1558]; kernel_rfl); clear hF1561
          have hF1563 := hF1562.setc (d := 145) (c := [6]) (v := .bool (decide ((w64 ((w64 ((w64 (u1 - (w64 (u0.Add * u2)))).tdiv r171)).tdiv r261)) < 0))) (by kernel_rfl) (v' := undef) (by rw [hb1558]; kernel_rfl); clear hF1562
          have hF1564 := hF1563.setc (d := 148) (c := [6]) (v := .bool ((decide ((w64 ((w64 ((w64 (u1 - (w64 (u0.Add * u2)))).tdiv r171)).tdiv r261)) < 0)) && (decide ((w64 (x11.tdiv r216)) < 0)))) (by kernel_rfl) (v' := undef) (by rw [hb1558]; kernel_rfl); clear hF1563
          have hF1565 := hF1564.setc (d := 149) (c := [6]) (v := .bool ((decide ((w64 ((w64 ((w64 (u1 - (w64 (u0.Add * u2)))).tdiv r171)).tdiv r261)) < 0)) && (decide ((w64 (x11.tdiv r216)) < 0)))) (by kernel_rfl) (v' := undef) (by rw [hb1558]; kernel_rfl); clear hF1564
          refine sku hF1565 rfl rfl (by kernel_rfl) (by kernel_rfl) rfl (by kernel_rfl) ?_; intro a1566 hF1567; clear hF1565
          refine sku hF1567 rfl rfl (by kernel_rfl) (by kernel_rfl) rfl (by kernel_rfl) ?_; intro a1568 hF1569; clear hF1567
          refine sk hF1569 (b := true) rfl rfl (by kernel_rfl) (by kernel_rfl) rfl rfl (by kernel_rfl) ?_; intro a1570 hF1571; clear hF1569
          refine s1 hF1571 156 (.bool true) ?_; intro a1572 hF1573; clear hF1571
          refine nlH (hQ344 _ _ ?_); clear hQ344 hQ344Q
          refine cdT hF1573 (by kernel_rfl) ?_
          have hF1574 : Fr 171 [] [] a1572 := hF1573.reg; clear hF1573
          refine sqH ?_; intro hQ1575Q hQ1575
          refine s1 hF1574 6 (.int .i64 0) ?_; intro a1576 hF1577; clear hF1574
          refine s1 hF1577 7 (.int .i64 3) ?_; intro a1578 hF1579; clear hF1577
          refine nlH (hQ1575 _ _ ?_); clear hQ1575 hQ1575Q
          refine wp_ret ?_
          refine thr ?_
          refine rt (fn := Tryd.f13) (v := .tuple #[.int .i64 0, .int .i64 3]) hF1579 (re2 hF1579 (fn := Tryd.f13) rfl (by kernel_rfl) (by kernel_rfl)) ?_
          exact ⟨(0, 3), rfl, hp1559, hM333.below⟩
         ·
          have hp1580 := hp1525.2 hb1558; clear hp1525
          have hF1581 := hF1557.reval (d := 142) (c := []) (v := .bool (decide ((w64 ((w64 ((w64 (u1 - (w64 (u0.Add * u2)))).tdiv r171)).tdiv r261)) > (w64 (((boundsS u0).1).tdiv (w64 (x11.tdiv r216))))))) (by kernel_rfl) (.bool false) (by rw [hb1558]); clear hF1557
          have hF1582 := hF1581.setc (d := 143) (c := [6]) (v := .int .i64 (w64 ((w64 ((w64 (u1 - (w64 (u0.Add * u2)))).tdiv r171)).tdiv r261))) (by kernel_rfl) (v' := .int .i64 (w64 ((w64 ((w64 (u1 - (w64 (u0.Add * u2)))).tdiv r171)).tdiv r261))) (by rw [hb1558]; kernel_rfl); clear hF1581
          have hF1583 := hF1582.setc (d := 144) (c := [6]) (v := .bool (decide ((w64 ((w64 ((w64 (u1 - (w64 (u0.Add * u2)))).tdiv r171)).tdiv r261)) < 0))) (by kernel_rfl) (v' := .bool (decide ((w64 ((w64 ((w64 (u1 - (w64 (u0.Add * u2)))).tdiv r171)).tdiv r261)) < 0))) (by rw [hb1558]; kernel_rfl); clear hF1582
          have hF1584 := hF1583.setc (d := 145) (c := [6]) (v := .bool (decide ((w64 ((w64 ((w64 (u1 - (w64 (u0.Add * u2)))).tdiv r171)).tdiv r261)) < 0))) (by kernel_rfl) (v' := .bool (decide ((w64 ((w64 ((w64 (u1 - (w64 (u0.Add * u2)))).tdiv r171)).tdiv r261)) < 0))) (by rw [hb1558]; kernel_rfl); clear hF1583
          have hF1585 := hF1584.setc (d := 148) (c := [6]) (v := .bool ((decide ((w64 ((w64 ((w64 (u1 - (w64 (u0.Add * u2)))).tdiv r171)).tdiv r261)) < 0)) && (decide ((w64 (x11.tdiv r216)) < 0)))) (by kernel_rfl) (v' := .bool ((decide ((w64 ((w64 ((w64 (u1 - (w64 (u0.Add * u2)))).tdiv r171)).tdiv r261)) < 0)) && (decide ((w64 (x11.tdiv r216)) < 0)))) (by rw [hb1558]; kernel_rfl); clear hF1584
          have hF1586 := hF1585.setc (d := 149) (c := [6]) (v := .bool ((decide ((w64 ((w64 ((w64 (u1 - (w64 (u0.Add * u2)))).tdiv r171)).tdiv r261)) < 0)) && (decide ((w64 (x11.tdiv r216)) < 0)))) (by kernel_rfl) (v' := .bool ((decide ((w64 ((w64 ((w64 (u1 - (w64 (u0.Add * u2)))).tdiv r171)).tdiv r261)) < 0)) && (decide ((w64 (x11.tdiv r216)) < 0)))) (by rw [hb1558]; kernel_rfl); clear hF1585
          rcases Bool.eq_false_or_eq_true ((decide ((w64 ((w64 ((w64 (u1 - (w64 (u0.Add * u2)))).tdiv r171)).tdiv r261)) < 0)) && (decide ((w64 (x11.tdiv r216)) < 0))) with hb1587 | hb1587
          ·
           have hp1588 := hp1580.1 hb1587; clear hp1580
           have hF1589 := hF1586.reval (d := 149) (c := []) (v := .bool ((decide ((w64 ((w64 ((w64 (u1 - (w64 (u0.Add * u2)))).tdiv r171)).tdiv r261)) < 0)) && (decide ((w64 (x11.tdiv r216)) < 0)))) (by kernel_rfl) (.bool true) (by rw [hb1587]); clear hF1586
           have hF1590 := hF1589.setc (d := 150) (c := [7, 6]) (v := .int .i64 (w64 ((w64 ((w64 (u1 - (w64 (u0.Add * u2)))).tdiv r171)).tdiv r261))) (by kernel_rfl) (v' := .int .i64 (w64 ((w64 ((w64 (u1 - (w64 (u0.Add * u2)))).tdiv r171)).tdiv r261))) (by rw [hb1587, hb1558]; kernel_rfl); clear hF1589
           have hF1591 := hF1590.setc (d := 151) (c := [7, 6]) (v := .int .i64 ((boundsS u0).2)) (by kernel_rfl) (v' := .int .i64 ((boundsS u0).2)) (by rw [hb1587, hb1558]; kernel_rfl); clear hF1590
           have hF1592 := hF1591.setc (d := 152) (c := [7, 6]) (v := .int .i64 (w64 (x11.tdiv r216))) (by kernel_rfl) (v' := .int .i64 (w64 (x11.tdiv r216))) (by rw [hb1587, hb1558]; kernel_rfl); clear hF1591
           have hc1593 := hp1588.1; have hp1594 := hp1588.2; clear hp1588
           refine st hF1592 (.int .i64 (w64 (((boundsS u0).2).tdiv (w64 (x11.tdiv r216))))) (by rw [wanted_of hF1592 (b := true) rfl rfl (by kernel_rfl) (by kernel_rfl)]; rfl) rfl (by kernel_rfl) (quo_run hF1592 (g := []) rfl (by kernel_rfl) (by kernel_rfl) hc1593 rfl) ?_; intro a1595 hF1596; clear hF1592
           refine st hF1596 (.bool (decide ((w64 ((w64 ((w64 (u1 - (w64 (u0.Add * u2)))).tdiv r171)).tdiv r261)) < (w64 (((boundsS u0).2).tdiv (w64 (x11.tdiv r216))))))) (by rw [wanted_of hF1596 (b := true) rfl rfl (by kernel_rfl) (by kernel_rfl)]; rfl) rfl (by kernel_rfl) (p0 hF1596 (by kernel_rfl)) ?_; intro a1597 hF1598; clear hF1596
           refine st hF1598 (.bool (decide ((w64 ((w64 ((w64 (u1 - (w64 (u0.Add * u2)))).tdiv r171)).tdiv r261)) < (w64 (((boundsS u0).2).tdiv (w64 (x11.tdiv r216))))))) (by rw [wanted_of hF1598 (b := false) rfl rfl (by kernel_rfl) (by kernel_rfl)]; rfl) rfl (by kernel_rfl) (p0 hF1598 (by kernel_rfl)) ?_; intro a1599 hF1600; clear hF1598
           refine s1 hF1600 156 (.bool (decide ((w64 ((w64 ((w64 (u1 - (w64 (u0.Add * u2)))).tdiv r171)).tdiv r261)) < (w64 (((boundsS u0).2).tdiv (w64 (x11.tdiv r216))))))) ?_; intro a1601 hF1602; clear hF1600
           refine nlH (hQ344 _ _ ?_); clear hQ344 hQ344Q
           refine cd hF1602 (t := decide ((w64 ((w64 ((w64 (u1 - (w64 (u0.Add * u2)))).tdiv r171)).tdiv r261)) < (w64 (((boundsS u0).2).tdiv (w64 (x11.tdiv r216)))))) (by kernel_rfl) (fun hb1603 => ?_) (fun hb1603 => ?_)
           ·
            have hp1604 := hp1594.1 hb1603; clear hp1594
            have hF1605 : Fr 171 [] [] a1601 := hF1602.reg; clear hF1602
            refine sqH ?_; intro hQ1606Q hQ1606
            refine s1 hF1605 6 (.int .i64 0) ?_; intro a1607 hF1608; clear hF1605
            refine s1 hF1608 7 (.int .i64 3) ?_; intro a1609 hF1610; clear hF1608
            refine nlH (hQ1606 _ _ ?_); clear hQ1606 hQ1606Q
            refine wp_ret ?_
            refine thr ?_
            refine rt (fn := Tryd.f13) (v := .tuple #[.int .i64 0, .int .i64 3]) hF1610 (re2 hF1610 (fn := Tryd.f13) rfl (by kernel_rfl) (by kernel_rfl)) ?_
            exact ⟨(0, 3), rfl, hp1604, hM333.below⟩
           ·
            have hp1611 := hp1594.2 hb1603; clear hp1594
            refine wp_skip ?_
            refine thn ?_
            refine wp_seq ?_
            have hF1612 : Fr 171 [] [⟨9, [], .int .i64 (w64 ((w64 ((w64 (u1 - (w64 (u0.Add * u2)))).tdiv r171)).tdiv r261))⟩, ⟨11, [], .int .i64 (w64 (x11.tdiv r216))⟩, ⟨14, [], .int .i64 ((boundsS u0).1)⟩, ⟨15, [], .int .i64 ((boundsS u0).2)⟩] a1601 := hF1602.reg; clear hF1602
            refine sqH ?_; intro hQ1613Q hQ1613
            refine s1 hF1612 157 (.int .i64 (w64 ((w64 ((w64 (u1 - (w64 (u0.Add * u2)))).tdiv r171)).tdiv r261))) ?_; intro a1614 hF1615; clear hF1612
            refine s1 hF1615 158 (.int .i64 (w64 (x11.tdiv r216))) ?_; intro a1616 hF1617; clear hF1615
            refine s1 hF1617 159 (.int .i64 (w64 ((w64 ((w64 ((w64 (u1 - (w64 (u0.Add * u2)))).tdiv r171)).tdiv r261)) * (w64 (x11.tdiv r216))))) ?_; intro a1618 hF1619; clear hF1617
            refine s1 hF1619 16 (.int .i64 (w64 ((w64 ((w64 ((w64 (u1 - (w64 (u0.Add * u2)))).tdiv r171)).tdiv r261)) * (w64 (x11.tdiv r216))))) ?_; intro a1620 hF1621; clear hF1619
            refine nlH (hQ1613 _ _ ?_); clear hQ1613 hQ1613Q
            refine sqH ?_; intro hQ1622Q hQ1622
            refine s1 hF1621 160 (.int .i64 (w64 ((w64 ((w64 ((w64 (u1 - (w64 (u0.Add * u2)))).tdiv r171)).tdiv r261)) * (w64 (x11.tdiv r216))))) ?_; intro a1623 hF1624; clear hF1621
            refine s1 hF1624 161 (.int .i64 ((boundsS u0).1)) ?_; intro a1625 hF1626; clear hF1624
            refine s1 hF1626 162 (.bool (decide ((w64 ((w64 ((w64 ((w64 (u1 - (w64 (u0.Add * u2)))).tdiv r171)).tdiv r261)) * (w64 (x11.tdiv r216)))) < ((boundsS u0).1)))) ?_; intro a1627 hF1628; clear hF1626
            refine s1 hF1628 163 (.bool (decide ((w64 ((w64 ((w64 ((w64 (u1 - (w64 (u0.Add * u2)))).tdiv r171)).tdiv r261)) * (w64 (x11.tdiv r216)))) < ((boundsS u0).1)))) ?_; intro a1629 hF1630; clear hF1628
            have hF1631 := hF1630.atom ((decide ((w64 ((w64 ((w64 ((w64 (u1 - (w64 (u0.Add * u2)))).tdiv r171)).tdiv r261)) * (w64 (x11.tdiv r216)))) < ((boundsS u0).1))) == false) (by kernel_rfl); clear hF1630
            refine gp hF1631 164 0 [] (decide ((w64 ((w64 ((w64 ((w64 (u1 - (w64 (u0.Add * u2)))).tdiv r171)).tdiv r261)) * (w64 (x11.tdiv r216)))) < ((boundsS u0).1))) (.int .i64 (w64 ((w64 ((w64 ((w64 (u1 - (w64 (u0.Add * u2)))).tdiv r171)).tdiv r261)) * (w64 (x11.tdiv r216))))) rfl rfl ?_; intro a1632 hF1633; clear hF1631
            refine gp hF1633 165 0 [] (decide ((w64 ((w64 ((w64 ((w64 (u1 - (w64 (u0.Add * u2)))).tdiv r171)).tdiv r261)) * (w64 (x11.tdiv r216)))) < ((boundsS u0).1))) (.int .i64 ((boundsS u0).2)) rfl rfl ?_; intro a1634 hF1635; clear hF1633
            refine gp hF1635 166 0 [] (decide ((w64 ((w64 ((w64 ((w64 (u1 - (w64 (u0.Add * u2)))).tdiv r171)).tdiv r261)) * (w64 (x11.tdiv r216)))) < ((boundsS u0).1))) (.bool (decide ((w64 ((w64 ((w64 ((w64 (u1 - (w64 (u0.Add * u2)))).tdiv r171)).tdiv r261)) * (w64 (x11.tdiv r216)))) > ((boundsS u0).2)))) rfl rfl ?_; intro a1636 hF1637; clear hF1635
            refine st hF1637 (.bool ((decide ((w64 ((w64 ((w64 ((w64 (u1 - (w64 (u0.Add * u2)))).tdiv r171)).tdiv r261)) * (w64 (x11.tdiv r216)))) < ((boundsS u0).1))) || (decide ((w64 ((w64 ((w64 ((w64 (u1 - (w64 (u0.Add * u2)))).tdiv r171)).tdiv r261)) * (w64 (x11.tdiv r216)))) > ((boundsS u0).2))))) (nog rfl _) rfl (by kernel_rfl) (pk_or hF1637 (g := []) (m := 0) (b := decide ((w64 ((w64 ((w64 ((w64 (u1 - (w64 (u0.Add * u2)))).tdiv r171)).tdiv r261)) * (w64 (x11.tdiv r216)))) < ((boundsS u0).1))) (v := decide ((w64 ((w64 ((w64 ((w64 (u1 - (w64 (u0.Add * u2)))).tdiv r171)).tdiv r261)) * (w64 (x11.tdiv r216)))) > ((boundsS u0).2))) rfl (by kernel_rfl) (by kernel_rfl) (by kernel_rfl) rfl) ?_; intro a1638 hF1639; clear hF1637
            refine nlH (hQ1622 _ _ ?_); clear hQ1622 hQ1622Q
            refine cd hF1639 (t := (decide ((w64 ((w64 ((w64 ((w64 (u1 - (w64 (u0.Add * u2)))).tdiv r171)).tdiv r261)) * (w64 (x11.tdiv r216)))) < ((boundsS u0).1))) || (decide ((w64 ((w64 ((w64 ((w64 (u1 - (w64 (u0.Add * u2)))).tdiv r171)).tdiv r261)) * (w64 (x11.tdiv r216)))) > ((boundsS u0).2)))) (by kernel_rfl) (fun hb1640 => ?_) (fun hb1640 => ?_)
            ·
             have hp1641 := hp1611.1 hb1640; clear hp1611
             have hF1642 : Fr 171 [] [] a1638 := hF1639.reg; clear hF1639
             refine sqH ?_; intro hQ1643Q hQ1643
             refine s1 hF1642 6 (.int .i64 0) ?_; intro a1644 hF1645; clear hF1642
             refine s1 hF1645 7 (.int .i64 3) ?_; intro a1646 hF1647; clear hF1645
             refine nlH (hQ1643 _ _ ?_); clear hQ1643 hQ1643Q
             refine wp_ret ?_
             refine thr ?_
             refine rt (fn := Tryd.f13) (v := .tuple #[.int .i64 0, .int .i64 3]) hF1647 (re2 hF1647 (fn := Tryd.f13) rfl (by kernel_rfl) (by kernel_rfl)) ?_
             exact ⟨(0, 3), rfl, hp1641, hM333.below⟩
            ·
             have hp1648 := hp1611.2 hb1640; clear hp1611
             refine wp_skip ?_
             refine thn ?_
             have hF1649 : Fr 171 [] [⟨9, [], .int .i64 (w64 ((w64 ((w64 (u1 - (w64 (u0.Add * u2)))).tdiv r171)).tdiv r261))⟩, ⟨11, [], .int .i64 (w64 (x11.tdiv r216))⟩] a1638 := hF1639.reg; clear hF1639
             refine sqH ?_; intro hQ1650Q hQ1650
             refine s1 hF1649 168 (.int .i64 (w64 ((w64 ((w64 (u1 - (w64 (u0.Add * u2)))).tdiv r171)).tdiv r261))) ?_; intro a1651 hF1652; clear hF1649
             refine s1 hF1652 169 (.int .i64 (w64 (x11.tdiv r216))) ?_; intro a1653 hF1654; clear hF1652
             refine s1 hF1654 170 (.int .i64 (w64 ((w64 ((w64 ((w64 (u1 - (w64 (u0.Add * u2)))).tdiv r171)).tdiv r261)) * (w64 (x11.tdiv r216))))) ?_; intro a1655 hF1656; clear hF1654
             refine s1 hF1656 6 (.int .i64 (w64 ((w64 ((w64 ((w64 (u1 - (w64 (u0.Add * u2)))).tdiv r171)).tdiv r261)) * (w64 (x11.tdiv r216))))) ?_; intro a1657 hF1658; clear hF1656
             refine s1 hF1658 7 (.int .i64 0) ?_; intro a1659 hF1660; clear hF1658
             refine nlH (hQ1650 _ _ ?_); clear hQ1650 hQ1650Q
             refine wp_ret ?_
             refine rt (fn := Tryd.f13) (v := .tuple #[.int .i64 (w64 ((w64 ((w64 ((w64 (u1 - (w64 (u0.Add * u2)))).tdiv r171)).tdiv r261)) * (w64 (x11.tdiv r216)))), .int .i64 0]) hF1660 (re2 hF1660 (fn := Tryd.f13) rfl (by kernel_rfl) (by kernel_rfl)) ?_
             exact ⟨(w64 ((w64 ((w64 ((w64 (u1 - (w64 (u0.Add * u2)))).tdiv r171)).tdiv r261)) * (w64 (x11.tdiv r216))), 0), rfl, hp1648, hM333.below⟩
          ·
           have hp1661 := hp1580.2 hb1587; clear hp1580
           have hF1662 := hF1586.reval (d := 149) (c := []) (v := .bool ((decide ((w64 ((w64 ((w64 (u1 - (w64 (u0.Add * u2)))).tdiv r171)).tdiv r261)) < 0)) && (decide ((w64 (x11.tdiv r216)) < 0)))) (by kernel_rfl) (.bool false) (by rw [hb1587]); clear hF1586
           have hF1663 := hF1662.setc (d := 150) (c := [7, 6]) (v := .int .i64 (w64 ((w64 ((w64 (u1 - (w64 (u0.Add * u2)))).tdiv r171)).tdiv r261))) (by kernel_rfl) (v' := undef) (by rw [hb1587, hb1558]; kernel_rfl); clear hF1662
           have hF1664 := hF1663.setc (d := 151) (c := [7, 6]) (v := .int .i64 ((boundsS u0).2)) (by kernel_rfl) (v' := undef) (by rw [hb1587, hb1558]; kernel_rfl); clear hF1663
           have hF1665 := hF1664.setc (d := 152) (c := [7, 6]) (v := .int .i64 (w64 (x11.tdiv r216))) (by kernel_rfl) (v' := undef) (by rw [hb1587, hb1558]; kernel_rfl); clear hF1664
           refine sk hF1665 (b := false) rfl rfl (by kernel_rfl) (by kernel_rfl) rfl rfl (by kernel_rfl) ?_; intro a1666 hF1667; clear hF1665
           refine sk hF1667 (b := false) rfl rfl (by kernel_rfl) (by kernel_rfl) rfl rfl (by kernel_rfl) ?_; intro a1668 hF1669; clear hF1667
           refine st hF1669 (.bool false) (by rw [wanted_of hF1669 (b := false) rfl rfl (by kernel_rfl) (by kernel_rfl)]; rfl) rfl (by kernel_rfl) (p0 hF1669 (by kernel_rfl)) ?_; intro a1670 hF1671; clear hF1669
           refine s1 hF1671 156 (.bool false) ?_; intro a1672 hF1673; clear hF1671
           refine nlH (hQ344 _ _ ?_); clear hQ344 hQ344Q
           refine cdF hF1673 (by kernel_rfl) ?_
           refine wp_skip ?_
           refine thn ?_
           refine wp_seq ?_
           have hF1674 : Fr 171 [] [⟨9, [], .int .i64 (w64 ((w64 ((w64 (u1 - (w64 (u0.Add * u2)))).tdiv r171)).tdiv r261))⟩, ⟨11, [], .int .i64 (w64 (x11.tdiv r216))⟩, ⟨14, [], .int .i64 ((boundsS u0).1)⟩, ⟨15, [], .int .i64 ((boundsS u0).2)⟩] a1672 := hF1673.reg; clear hF1673
           refine sqH ?_; intro hQ1675Q hQ1675
           refine s1 hF1674 157 (.int .i64 (w64 ((w64 ((w64 (u1 - (w64 (u0.Add * u2)))).tdiv r171)).tdiv r261))) ?_; intro a1676 hF1677; clear hF1674
           refine s1 hF1677 158 (.int .i64 (w64 (x11.tdiv r216))) ?_; intro a1678 hF1679; clear hF1677
           refine s1 hF1679 159 (.int .i64 (w64 ((w64 ((w64 ((w64 (u1 - (w64 (u0.Add * u2)))).tdiv r171)).tdiv r261)) * (w64 (x11.tdiv r216))))) ?_; intro a1680 hF1681; clear hF1679
           refine s1 hF1681 16 (.int .i64 (w64 ((w64 ((w64 ((w64 (u1 - (w64 (u0.Add * u2)))).tdiv r171)).tdiv r261)) * (w64 (x11.tdiv r216))))) ?_; intro a1682 hF1683; clear hF1681
           refine nlH (hQ1675 _ _ ?_); clear hQ1675 hQ1675Q
           refine sqH ?_; intro hQ1684Q hQ1684
           refine s1 hF1683 160 (.int .i64 (w64 ((w64 ((w64 ((w64 (u1 - (w64 (u0.Add * u2)))).tdiv r171)).tdiv r261)) * (w64 (x11.tdiv r216))))) ?_; intro a1685 hF1686; clear hF1683
           refine s1 hF1686 161 (.int .i64 ((boundsS u0).1)) ?_; intro a1687 hF1688; clear hF1686
           refine s1 hF1688 162 (.bool (decide ((w64 ((w64 ((w64 ((w64 (u1 - (w64 (u0.Add * u2)))).tdiv r171)).tdiv r261)) * (w64 (x11.tdiv r216)))) < ((boundsS u0).1)))) ?_; intro a1689 hF1690; clear hF1688
           refine s1 hF1690 163 (.bool (decide ((w64 ((w64 ((w64 ((w64 (u1 - (w64 (u0.Add * u2)))).tdiv r171)).tdiv r261)) * (w64 (x11.tdiv r216)))) < ((boundsS u0).1)))) ?_; intro a1691 hF1692; clear hF1690
           have hF1693 := hF1692.atom ((decide ((w64 ((w64 ((w64 ((w64 (u1 - (w64 (u0.Add * u2)))).tdiv r171)).tdiv r261)) * (w64 (x11.tdiv r216)))) < ((boundsS u0).1))) == false) (by kernel_rfl); clear hF1692
           refine gp hF1693 164 0 [] (decide ((w64 ((w64 ((w64 ((w64 (u1 - (w64 (u0.Add * u2)))).tdiv r171)).tdiv r261)) * (w64 (x11.tdiv r216)))) < ((boundsS u0).1))) (.int .i64 (w64 ((w64 ((w64 ((w64 (u1 - (w64 (u0.Add * u2)))).tdiv r171)).tdiv r261)) * (w64 (x11.tdiv r216))))) rfl rfl ?_; intro a1694 hF1695; clear hF1693
           refine gp hF1695 165 0 [] (decide ((w64 ((w64 ((w64 ((w64 (u1 - (w64 (u0.Add * u2)))).tdiv r171)).tdiv r261)) * (w64 (x11.tdiv r216)))) < ((boundsS u0).1))) (.int .i64 ((boundsS u0).2)) rfl rfl ?_; intro a1696 hF1697; clear hF1695
           refine gp hF1697 166 0 [] (decide ((w64 ((w64 ((w64 ((w64 (u1 - (w64 (u0.Add * u2)))).tdiv r171)).tdiv r261)) * (w64 (x11.tdiv r216)))) < ((boundsS u0).1))) (.bool (decide ((w64 ((w64 ((w64 ((w64 (u1 - (w64 (u0.Add * u2)))).tdiv r171)).tdiv r261)) * (w64 (x11.tdiv r216)))) > ((boundsS u0).2)))) rfl rfl ?_; intro a1698 hF1699; clear hF1697
           refine st hF1699 (.bool ((decide ((w64 ((w64 ((w64 ((w64 (u1 - (w64 (u0.Add * u2)))).tdiv r171)).tdiv r261)) * (w64 (x11.tdiv r216)))) < ((boundsS u0).1))) || (decide ((w64 ((w64 ((w64 ((w64 (u1 - (w64 (u0.Add * u2)))).tdiv r171)).tdiv r261)) * (w64 (x11.tdiv r216)))) > ((boundsS u0).2))))) (nog rfl _) rfl (by kernel_rfl) (pk_or hF1699 (g := []) (m := 0) (b := decide ((w64 ((w64 ((w64 ((w64 (u1 - (w64 (u0.Add * u2)))).tdiv r171)).tdiv r261)) * (w64 (x11.tdiv r216)))) < ((boundsS u0).1))) (v := decide ((w64 ((w64 ((w64 ((w64 (u1 - (w64 (u0.Add * u2)))).tdiv r171)).tdiv r261)) * (w64 (x11.tdiv r216)))) > ((boundsS u0).2))) rfl (by kernel_rfl) (by kernel_rfl) (by kernel_rfl) rfl) ?_; intro a1700 hF1701; clear hF1699
           refine nlH (hQ1684 _ _ ?_); clear hQ1684 hQ1684Q
           refine cd hF1701 (t := (decide ((w64 ((w64 ((w64 ((w64 (u1 - (w64 (u0.Add * u2)))).tdiv r171)).tdiv r261)) * (w64 (x11.tdiv r216)))) < ((boundsS u0).1))) || (decide ((w64 ((w64 ((w64 ((w64 (u1 - (w64 (u0.Add * u2)))).tdiv r171)).tdiv r261)) * (w64 (x11.tdiv r216)))) > ((boundsS u0).2)))) (by kernel_rfl) (fun hb1702 => ?_) (fun hb1702 => ?_)
           ·
            have hp1703 := hp1661.1 hb1702; clear hp1661
            have hF1704 : Fr 171 [] [] a1700 := hF1701.reg; clear hF1701
            refine sqH ?_; intro hQ1705Q hQ1705
            refine s1 hF1704 6 (.int .i64 0) ?_; intro a1706 hF1707; clear hF1704
            refine s1 hF1707 7 (.int .i64 3) ?_; intro a1708 hF1709; clear hF1707
            refine nlH (hQ1705 _ _ ?_); clear hQ1705 hQ1705Q
            refine wp_ret ?_
            refine thr ?_
            refine rt (fn := Tryd.f13) (v := .tuple #[.int .i64 0, .int .i64 3]) hF1709 (re2 hF1709 (fn := Tryd.f13) rfl (by kernel_rfl) (by kernel_rfl)) ?_
            exact ⟨(0, 3), rfl, hp1703, hM333.below⟩
           ·
            have hp1710 := hp1661.2 hb1702; clear hp1661
            refine wp_skip ?_
            refine thn ?_
            have hF1711 : Fr 171 [] [⟨9, [], .int .i64 (w64 ((w64 ((w64 (u1 - (w64 (u0.Add * u2)))).tdiv r171)).tdiv r261))⟩, ⟨11, [], .int .i64 (w64 (x11.tdiv r216))⟩] a1700 := hF1701.reg; clear hF1701
            refine sqH ?_; intro hQ1712Q hQ1712
            refine s1 hF1711 168 (.int .i64 (w64 ((w64 ((w64 (u1 - (w64 (u0.Add * u2)))).tdiv r171)).tdiv r261))) ?_; intro a1713 hF1714; clear hF1711
            refine s1 hF1714 169 (.int .i64 (w64 (x11.tdiv r216))) ?_; intro a1715 hF1716; clear hF1714
            refine s1 hF1716 170 (.int .i64 (w64 ((w64 ((w64 ((w64 (u1 - (w64 (u0.Add * u2)))).tdiv r171)).tdiv r261)) * (w64 (x11.tdiv r216))))) ?_; intro a1717 hF1718; clear hF1716
            refine s1 hF1718 6 (.int .i64 (w64 ((w64 ((w64 ((w64 (u1 - (w64 (u0.Add * u2)))).tdiv r171)).tdiv r261)) * (w64 (x11.tdiv r216))))) ?_; intro a1719 hF1720; clear hF1718
            refine s1 hF1720 7 (.int .i64 0) ?_; intro a1721 hF1722; clear hF1720
            refine nlH (hQ1712 _ _ ?_); clear hQ1712 hQ1712Q
            refine wp_ret ?_
            refine rt (fn := Tryd.f13) (v := .tuple #[.int .i64 (w64 ((w64 ((w64 ((w64 (u1 - (w64 (u0.Add * u2)))).tdiv r171)).tdiv r261)) * (w64 (x11.tdiv r216)))), .int .i64 0]) hF1722 (re2 hF1722 (fn := Tryd.f13) rfl (by kernel_rfl) (by kernel_rfl)) ?_
            exact ⟨(w64 ((w64 ((w64 ((w64 (u1 - (w64 (u0.Add * u2)))).tdiv r171)).tdiv r261)) * (w64 (x11.tdiv r216))), 0), rfl, hp1710, hM333.below⟩
        ·
         have hp1723 := hp1511.2 hb1518; clear hp1511
         have hF1724 := hF1517.reval (d := 134) (c := []) (v := .bool ((decide ((w64 ((w64 ((w64 (u1 - (w64 (u0.Add * u2)))).tdiv r171)).tdiv r261)) > 0)) && (decide ((w64 (x11.tdiv r216)) < 0)))) (by kernel_rfl) (.bool false) (by rw [hb1518]); clear hF1517
         have hF1725 := hF1724.setc (d := 135) (c := [5, 4]) (v := .int .i64 (w64 ((w64 ((w64 (u1 - (w64 (u0.Add * u2)))).tdiv r171)).tdiv r261))) (by kernel_rfl) (v' := undef) (by rw [hb1518, hb1459]; kernel_rfl); clear hF1724
         have hF1726 := hF1725.setc (d := 136) (c := [5, 4]) (v := .int .i64 ((boundsS u0).1)) (by kernel_rfl) (v' := undef) (by rw [hb1518, hb1459]; kernel_rfl); clear hF1725
         have hF1727 := hF1726.setc (d := 137) (c := [5, 4]) (v := .int .i64 (w64 (x11.tdiv r216))) (by kernel_rfl) (v' := undef) (by rw [hb1518, hb1459]; kernel_rfl); clear hF1726
         refine sk hF1727 (b := false) rfl rfl (by kernel_rfl) (by kernel_rfl) rfl rfl (by kernel_rfl) ?_; intro a1728 hF1729; clear hF1727
         refine sk hF1729 (b := false) rfl rfl (by kernel_rfl) (by kernel_rfl) rfl rfl (by kernel_rfl) ?_; intro a1730 hF1731; clear hF1729
         refine st hF1731 (.bool false) (by rw [wanted_of hF1731 (b := false) rfl rfl (by kernel_rfl) (by kernel_rfl)]; rfl) rfl (by kernel_rfl) (p0 hF1731 (by kernel_rfl)) ?_; intro a1732 hF1733; clear hF1731
         refine s1 hF1733 141 (.bool false) ?_; intro a1734 hF1735; clear hF1733
         refine s1 hF1735 142 (.bool false) ?_; intro a1736 hF1737; clear hF1735
         refine st hF1737 (.int .i64 (w64 ((w64 ((w64 (u1 - (w64 (u0.Add * u2)))).tdiv r171)).tdiv r261))) (by rw [wanted_of hF1737 (b := false) rfl rfl (by kernel_rfl) (by kernel_rfl)]; rfl) rfl (by kernel_rfl) (p0 hF1737 (by kernel_rfl)) ?_; intro a1738 hF1739; clear hF1737
         refine st hF1739 (.bool (decide ((w64 ((w64 ((w64 (u1 - (w64 (u0.Add * u2)))).tdiv r171)).tdiv r261)) < 0))) (by rw [wanted_of hF1739 (b := false) rfl rfl (by kernel_rfl) (by kernel_rfl)]; rfl) rfl (by kernel_rfl) (p0 hF1739 (by kernel_rfl)) ?_; intro a1740 hF1741; clear hF1739
         refine st hF1741 (.bool (decide ((w64 ((w64 ((w64 (u1 - (w64 (u0.Add * u2)))).tdiv r171)).tdiv r261)) < 0))) (by rw [wanted_of hF1741 (b := false) rfl rfl (by kernel_rfl) (by kernel_rfl)]; rfl) rfl (by kernel_rfl) (p0 hF1741 (by kernel_rfl)) ?_; intro a1742 hF1743; clear hF1741
         refine gp hF1743 146 2 [] (decide ((w64 ((w64 ((w64 (u1 - (w64 (u0.Add * u2)))).tdiv r171)).tdiv r261)) < 0)) (.int .i64 (w64 (x11.tdiv r216))) rfl rfl ?_; intro a1744 hF1745; clear hF1743
         refine gp hF1745 147 2 [] (decide ((w64 ((w64 ((w64 (u1 - (w64 (u0.Add * u2)))).tdiv r171)).tdiv r261)) < 0)) (.bool (decide ((w64 (x11.tdiv r216)) < 0))) rfl rfl ?_; intro a1746 hF1747; clear hF1745
         refine st hF1747 (.bool ((decide ((w64 ((w64 ((w64 (u1 - (w64 (u0.Add * u2)))).tdiv r171)).tdiv r261)) < 0)) && (decide ((w64 (x11.tdiv r216)) < 0)))) (by rw [wanted_of hF1747 (b := false) rfl rfl (by kernel_rfl) (by kernel_rfl)]; rfl) rfl (by kernel_rfl) (pk_and hF1747 (g := []) (m := 2) (b := decide ((w64 ((w64 ((w64 (u1 - (w64 (u0.Add * u2)))).tdiv r171)).tdiv r261)) < 0)) (v := decide ((w64 (x11.tdiv r216)) < 0)) rfl (by kernel_rfl) (by kernel_rfl) (by kernel_rfl) rfl) ?_; intro a1748 hF1749; clear hF1747
         refine st hF1749 (.bool ((decide ((w64 ((w64 ((w64 (u1 - (w64 (u0.Add * u2)))).tdiv r171)).tdiv r261)) < 0)) && (decide ((w64 (x11.tdiv r216)) < 0)))) (by rw [wanted_of hF1749 (b := false) rfl rfl (by kernel_rfl) (by kernel_rfl)]; rfl) rfl (by kernel_rfl) (p0 hF1749 (by kernel_rfl)) ?_; intro a1750 hF1751; clear hF1749
         have hF1752 := hF1751.atom (((decide ((w64 ((w64 ((w64 (u1 - (w64 (u0.Add * u2)))).tdiv r171)).tdiv r261)) < 0)) && (decide ((w64 (x11.tdiv r216)) < 0))) == true) (by kernel_rfl); clear hF1751
         refine gp hF1752 150 6 [] ((decide ((w64 ((w64 ((w64 (u1 - (w64 (u0.Add * u2)))).tdiv r171)).tdiv r261)) < 0)) && (decide ((w64 (x11.tdiv r216)) < 0))) (.int .i64 (w64 ((w64 ((w64 (u1 - (w64 (u0.Add * u2)))).tdiv r171)).tdiv r261))) rfl rfl ?_; intro a1753 hF1754; clear hF1752
         refine gp hF1754 151 6 [] ((decide ((w64 ((w64 ((w64 (u1 - (w64 (u0.Add * u2)))).tdiv r171)).tdiv r261)) < 0)) && (decide ((w64 (x11.tdiv r216)) < 0))) (.int .i64 ((boundsS u0).2)) rfl rfl ?_; intro a1755 hF1756; clear hF1754
         refine gp hF1756 152 6 [] ((decide ((w64 ((w64 ((w64 (u1 - (w64 (u0.Add * u2)))).tdiv r171)).tdiv r261)) < 0)) && (decide ((w64 (x11.tdiv r216)) < 0))) (.int .i64 (w64 (x11.tdiv r216))) rfl rfl ?_; intro a1757 hF1758; clear hF1756
         rcases Bool.eq_false_or_eq_true ((decide ((w64 ((w64 ((w64 (u1 - (w64 (u0.Add * u2)))).tdiv r171)).tdiv r261)) < 0)) && (decide ((w64 (x11.tdiv r216)) < 0))) with hb1759 | hb1759
         ·
          have hp1760 := hp1723.1 hb1759; clear hp1723
          have hF1761 := hF1758.reval (d := 149) (c := []) (v := .bool ((decide ((w64 ((w64 ((w64 (u1 - (w64 (u0.Add * u2)))).tdiv r171)).tdiv r261)) < 0)) && (decide ((w64 (x11.tdiv r216)) < 0)))) (by kernel_rfl) (.bool true) (by rw [hb1759]); clear hF1758
          have hF1762 := hF1761.setc (d := 150) (c := [6]) (v := .int .i64 (w64 ((w64 ((w64 (u1 - (w64 (u0.Add * u2)))).tdiv r171)).tdiv r261))) (by kernel_rfl) (v' := .int .i64 (w64 ((w64 ((w64 (u1 - (w64 (u0.Add * u2)))).tdiv r171)).tdiv r261))) (by rw [hb1759]; kernel_rfl); clear hF1761
          have hF1763 := hF1762.setc (d := 151) (c := [6]) (v := .int .i64 ((boundsS u0).2)) (by kernel_rfl) (v' := .int .i64 ((boundsS u0).2)) (by rw [hb1759]; kernel_rfl); clear hF1762
          have hF1764 := hF1763.setc (d := 152) (c := [6]) (v := .int .i64 (w64 (x11.tdiv r216))) (by kernel_rfl) (v' := .int .i64 (w64 (x11.tdiv r216))) (by rw [hb1759]; kernel_rfl); clear hF1763
          have hc1765 := hp1760.1; have hp1766 := hp1760.2; clear hp1760
          refine st hF1764 (.int .i64 (w64 (((boundsS u0).2).tdiv (w64 (x11.tdiv r216))))) (by rw [wanted_of hF1764 (b := true) rfl rfl (by kernel_rfl) (by kernel_rfl)]; rfl) rfl (by kernel_rfl) (quo_run hF1764 (g := []) rfl (by kernel_rfl) (by kernel_rfl) hc1765 rfl) ?_; intro a1767 hF1768; clear hF1764
          refine st hF1768 (.bool (decide ((w64 ((w64 ((w64 (u1 - (w64 (u0.Add * u2)))).tdiv r171)).tdiv r261)) < (w64 (((boundsS u0).2).tdiv (w64 (x11.tdiv r216))))))) (by rw [wanted_of hF1768 (b := true) rfl rfl (by kernel_rfl) (by kernel_rfl)]; rfl) rfl (by kernel_rfl) (p0 hF1768 (by kernel_rfl)) ?_; intro a1769 hF1770; clear hF1768
          refine st hF1770 (.bool (decide ((w64 ((w64 ((w64 (u1 - (w64 (u0.Add * u2)))).tdiv r171)).tdiv r261)) < (w64 (((boundsS u0).2).tdiv (w64 (x11.tdiv r216))))))) (by rw [wanted_of hF1770 (b := false) rfl rfl (by kernel_rfl) (by kernel_rfl)]; rfl) rfl (by kernel_rfl) (p0 hF1770 (by kernel_rfl)) ?_; intro a1771 hF1772; clear hF1770
          refine s1 hF1772 156 (.bool (decide ((w64 ((w64 ((w64 (u1 - (w64 (u0.Add * u2)))).tdiv r171)).tdiv r261)) < (w64 (((boundsS u0).2).tdiv (w64 (x11.tdiv r216))))))) ?_; intro a1773 hF1774; clear hF1772
          refine nlH (hQ344 _ _ ?_); clear hQ344 hQ344Q
          refine cd hF1774 (t := decide ((w64 ((w64 ((w64 (u1 - (w64 (u0.Add * u2)))).tdiv r171)).tdiv r261)) < (w64 (((boundsS u0).2).tdiv (w64 (x11.tdiv r216)))))) (by kernel_rfl) (fun hb1775 => ?_) (fun hb1775 => ?_)
          ·
           have hp1776 := hp1766.1 hb1775; clear hp1766
           have hF1777 : Fr 171 [] [] a1773 := hF1774.reg; clear hF1774
           refine sqH ?_; intro hQ1778Q hQ1778
           refine s1 hF1777 6 (.int .i64 0) ?_; intro a1779 hF1780; clear hF1777
           refine s1 hF1780 7 (.int .i64 3) ?_; intro a1781 hF1782; clear hF1780
           refine nlH (hQ1778 _ _ ?_); clear hQ1778 hQ1778Q
           refine wp_ret ?_
           refine thr ?_
           refine rt (fn := Tryd.f13) (v := .tuple #[.int .i64 0, .int .i64 3]) hF1782 (re2 hF1782 (fn := Tryd.f13) rfl (by kernel_rfl) (by kernel_rfl)) ?_
           exact ⟨(0, 3), rfl, hp1776, hM333.below⟩
          ·
           have hp1783 := hp1766.2 hb1775; clear hp1766
           refine wp_skip ?_
           refine thn ?_
           refine wp_seq ?_
           have hF1784 : Fr 171 [] [⟨9, [], .int .i64 (w64 ((w64 ((w64 (u1 - (w64 (u0.Add * u2)))).tdiv r171)).tdiv r261))⟩, ⟨11, [], .int .i64 (w64 (x11.tdiv r216))⟩, ⟨14, [], .int .i64 ((boundsS u0).1)⟩, ⟨15, [], .int .i64 ((boundsS u0).2)⟩] a1773 := hF1774.reg; clear hF1774
           refine sqH ?_; intro hQ1785Q hQ1785
           refine s1 hF1784 157 (.int .i64 (w64 ((w64 ((w64 (u1 - (w64 (u0.Add * u2)))).tdiv r171)).tdiv r261))) ?_; intro a1786 hF1787; clear hF1784
           refine s1 hF1787 158 (.int .i64 (w64 (x11.tdiv r216))) ?_; intro a1788 hF1789; clear hF1787
           refine s1 hF1789 159 (.int .i64 (w64 ((w64 ((w64 ((w64 (u1 - (w64 (u0.Add * u2)))).tdiv r171)).tdiv r261)) * (w64 (x11.tdiv r216))))) ?_; intro a1790 hF1791; clear hF1789
           refine s1 hF1791 16 (.int .i64 (w64 ((w64 ((w64 ((w64 (u1 - (w64 (u0.Add * u2)))).tdiv r171)).tdiv r261)) * (w64 (x11.tdiv r216))))) ?_; intro a1792 hF1793; clear hF1791
           refine nlH (hQ1785 _ _ ?_); clear hQ1785 hQ1785Q
           refine sqH ?_; intro hQ1794Q hQ1794
           refine s1 hF1793 160 (.int .i64 (w64 ((w64 ((w64 ((w64 (u1 - (w64 (u0.Add * u2)))).tdiv r171)).tdiv r261)) * (w64 (x11.tdiv r216))))) ?_; intro a1795 hF1796; clear hF1793
           refine s1 hF1796 161 (.int .i64 ((boundsS u0).1)) ?_; intro a1797 hF1798; clear hF1796
           refine s1 hF1798 162 (.bool (decide ((w64 ((w64 ((w64 ((w64 (u1 - (w64 (u0.Add * u2)))).tdiv r171)).tdiv r261)) * (w64 (x11.tdiv r216)))) < ((boundsS u0).1)))) ?_; intro a1799 hF1800; clear hF1798
           refine s1 hF1800 163 (.bool (decide ((w64 ((w64 ((w64 ((w64 (u1 - (w64 (u0.Add * u2)))).tdiv r171)).tdiv r261)) * (w64 (x11.tdiv r216)))) < ((boundsS u0).1)))) ?_; intro a1801 hF1802; clear hF1800
           have hF1803 := hF1802.atom ((decide ((w64 ((w64 ((w64 ((w64 (u1 - (w64 (u0.Add * u2)))).tdiv r171)).tdiv r261)) * (w64 (x11.tdiv r216)))) < ((boundsS u0).1))) == false) (by kernel_rfl); clear hF1802
           refine gp hF1803 164 0 [] (decide ((w64 ((w64 ((w64 ((w64 (u1 - (w64 (u0.Add * u2)))).tdiv r171)).tdiv r261)) * (w64 (x11.tdiv r216)))) < ((boundsS u0).1))) (.int .i64 (w64 ((w64 ((w64 ((w64 (u1 - (w64 (u0.Add * u2)))).tdiv r171)).tdiv r261)) * (w64 (x11.tdiv r216))))) rfl rfl ?_; intro a1804 hF1805; clear hF1803
           refine gp hF1805 165 0 [] (decide ((w64 ((w64 ((w64 ((w64 (u1 - (w64 (u0.Add * u2)))).tdiv r171)).tdiv r261)) * (w64 (x11.tdiv r216)))) < ((boundsS u0).1))) (.int .i64 ((boundsS u0).2)) rfl rfl ?_; intro a1806 hF1807; clear hF1805
           refine gp hF1807 166 0 [] (decide ((w64 ((w64 ((w64 ((w64 (u1 - (w64 (u0.Add * u2)))).tdiv r171)).tdiv r261)) * (w64 (x11.tdiv r216)))) < ((boundsS u0).1))) (.bool (decide ((w64 ((w64 ((w64 ((w64 (u1 - (w64 (u0.Add * u2)))).tdiv r171)).tdiv r261)) * (w64 (x11.tdiv r216)))) > ((boundsS u0).2)))) rfl rfl ?_; intro a1808 hF1809; clear hF1807
           refine st hF1809 (.bool ((decide ((w64 ((w64 ((w64 ((w64 (u1 - (w64 (u0.Add * u2)))).tdiv r171)).tdiv r261)) * (w64 (x11.tdiv r216)))) < ((boundsS u0).1))) || (decide ((w64 ((w64 ((w64 ((w64 (u1 - (w64 (u0.Add * u2)))).tdiv r171)).tdiv r261)) * (w64 (x11.tdiv r216)))) > ((boundsS u0).2))))) (nog rfl _) rfl (by kernel_rfl) (pk_or hF1809 (g := []) (m := 0) (b := decide ((w64 ((w64 ((w64 ((w64 (u1 - (w64 (u0.Add * u2)))).tdiv r171)).tdiv r261)) * (w64 (x11.tdiv r216)))) < ((boundsS u0).1))) (v := decide ((w64 ((w64 ((w64 ((w64 (u1 - (w64 (u0.Add * u2)))).tdiv r171)).tdiv r261)) * (w64 (x11.tdiv r216)))) > ((boundsS u0).2))) rfl (by kernel_rfl) (by kernel_rfl) (by kernel_rfl) rfl) ?_; intro a1810 hF1811; clear hF1809
           refine nlH (hQ1794 _ _ ?_); clear hQ1794 hQ1794Q
           refine cd hF1811 (t := (decide ((w64 ((w64 ((w64 ((w64 (u1 - (w64 (u0.Add * u2)))).tdiv r171)).tdiv r261)) * (w64 (x11.tdiv r216)))) < ((boundsS u0).1))) || (decide ((w64 ((w64 ((w64 ((w64 (u1 - (w64 (u0.Add * u2)))).tdiv r171)).tdiv r261)) * (w64 (x11.tdiv r216)))) > ((boundsS u0).2)))) (by kernel_rfl) (fun hb1812 => ?_) (fun hb1812 => ?_)
           ·
            have hp1813 := hp1783.1 hb1812; clear hp1783
            have hF1814 : Fr 171 [] [] a1810 := hF1811.reg; clear hF1811
            refine sqH ?_; intro hQ1815Q hQ1815
            refine s1 hF1814 6 (.int .i64 0) ?_; intro a1816 hF1817; clear hF1814
            refine s1 hF1817 7 (.int .i64 3) ?_; intro a1818 hF1819; clear hF1817
            refine nlH (hQ1815 _ _ ?_); clear hQ1815 hQ1815Q
            refine wp_ret ?_
            refine thr ?_
            refine rt (fn := Tryd.f13) (v := .tuple #[.int .i64 0, .int .i64 3]) hF1819 (re2 hF1819 (fn := Tryd.f13) rfl (by kernel_rfl) (by kernel_rfl)) ?_
            exact ⟨(0, 3), rfl, hp1813, hM333.below⟩
           ·
            have hp1820 := hp1783.2 hb1812; clear hp1783
            refine wp_skip ?_
            refine thn ?_
            have hF1821 : Fr 171 [] [⟨9, [], .int .i64 (w64 ((w64 ((w64 (u1 - (w64 (u0.Add * u2)))).tdiv r171)).tdiv r261))⟩, ⟨11, [], .int .i64 (w64 (x11.tdiv r216))⟩] a1810 := hF1811.reg; clear hF1811
            refine sqH ?_; intro hQ1822Q hQ1822
            refine s1 hF1821 168 (.int .i64 (w64 ((w64 ((w64 (u1 - (w64 (u0.Add * u2)))).tdiv r171)).tdiv r261))) ?_; intro a1823 hF1824; clear hF1821
            refine s1 hF1824 169 (.int .i64 (w64 (x11.tdiv r216))) ?_; intro a1825 hF1826; clear hF1824
            refine s1 hF1826 170 (.int .i64 (w64 ((w64 ((w64 ((w64 (u1 - (w64 (u0.Add * u2)))).tdiv r171)).tdiv r261)) * (w64 (x11.tdiv r216))))) ?_; intro a1827 hF1828; clear hF1826
            refine s1 hF1828 6 (.int .i64 (w64 ((w64 ((w64 ((w64 (u1 - (w64 (u0.Add * u2)))).tdiv r171)).tdiv r261)) * (w64 (x11.tdiv r216))))) ?_; intro a1829 hF1830; clear hF1828
            refine s1 hF1830 7 (.int .i64 0) ?_; intro a1831 hF1832; clear hF1830
            refine nlH (hQ1822 _ _ ?_); clear hQ1822 hQ1822Q
            refine wp_ret ?_
            refine rt (fn := Tryd.f13) (v := .tuple #[.int .i64 (w64 ((w64 ((w64 ((w64 (u1 - (w64 (u0.Add * u2)))).tdiv r171)).tdiv r261)) * (w64 (x11.tdiv r216)))), .int .i64 0]) hF1832 (re2 hF1832 (fn := Tryd.f13) rfl (by kernel_rfl) (by kernel_rfl)) ?_
            exact ⟨(w64 ((w64 ((w64 ((w64 (u1 - (w64 (u0.Add * u2)))).tdiv r171)).tdiv r261)) * (w64 (x11.tdiv r216))), 0), rfl, hp1820, hM333.below⟩
         ·
          have hp1833 := hp1723.2 hb1759; clear hp1723
          have hF1834 := hF1758.reval (d := 149) (c := []) (v := .bool ((decide ((w64 ((w64 ((w64 (u1 - (w64 (u0.Add * u2)))).tdiv r171)).tdiv r261)) < 0)) && (decide ((w64 (x11.tdiv r216)) < 0)))) (by kernel_rfl) (.bool false) (by rw [hb1759]); clear hF1758
          have hF1835 := hF1834.setc (d := 150) (c := [6]) (v := .int .i64 (w64 ((w64 ((w64 (u1 - (w64 (u0.Add * u2)))).tdiv r171)).tdiv r261))) (by kernel_rfl) (v' := undef) (by rw [hb1759]; kernel_rfl); clear hF1834
          have hF1836 := hF1835.setc (d := 151) (c := [6]) (v := .int .i64 ((boundsS u0).2)) (by kernel_rfl) (v' := undef) (by rw [hb1759]; kernel_rfl); clear hF1835
          have hF1837 := hF1836.setc (d := 152) (c := [6]) (v := .int .i64 (w64 (x11.tdiv r216))) (by kernel_rfl) (v' := undef) (by rw [hb1759]; kernel_rfl); clear hF1836
          refine sk hF1837 (b := false) rfl rfl (by kernel_rfl) (by kernel_rfl) rfl rfl (by kernel_rfl) ?_; intro a1838 hF1839; clear hF1837
          refine sk hF1839 (b := false) rfl rfl (by kernel_rfl) (by kernel_rfl) rfl rfl (by kernel_rfl) ?_; intro a1840 hF1841; clear hF1839
          refine st hF1841 (.bool false) (by rw [wanted_of hF1841 (b := false) rfl rfl (by kernel_rfl) (by kernel_rfl)]; rfl) rfl (by kernel_rfl) (p0 hF1841 (by kernel_rfl)) ?_; intro a1842 hF1843; clear hF1841
          refine s1 hF1843 156 (.bool false) ?_; intro a1844 hF1845; clear hF1843
          refine nlH (hQ344 _ _ ?_); clear hQ344 hQ344Q
          refine cdF hF1845 (by kernel_rfl) ?_
          refine wp_skip ?_
          refine thn ?_
          refine wp_seq ?_
          have hF1846 : Fr 171 [] [⟨9, [], .int .i64 (w64 ((w64 ((w64 (u1 - (w64 (u0.Add * u2)))).tdiv r171)).tdiv r261))⟩, ⟨11, [], .int .i64 (w64 (x11.tdiv r216))⟩, ⟨14, [], .int .i64 ((boundsS u0).1)⟩, ⟨15, [], .int .i64 ((boundsS u0).2)⟩] a1844 := hF1845.reg; clear hF1845
          refine sqH ?_; intro hQ1847Q hQ1847
          refine s1 hF1846 157 (.int .i64 (w64 ((w64 ((w64 (u1 - (w64 (u0.Add * u2)))).tdiv r171)).tdiv r261))) ?_; intro a1848 hF1849; clear hF1846
          refine s1 hF1849 158 (.int .i64 (w64 (x11.tdiv r216))) ?_; intro a1850 hF1851; clear hF1849
          refine s1 hF1851 159 (.int .i64 (w64 ((w64 ((w64 ((w64 (u1 - (w64 (u0.Add * u2)))).tdiv r171)).tdiv r261)) * (w64 (x11.tdiv r216))))) ?_; intro a1852 hF1853; clear hF1851
          refine s1 hF1853 16 (.int .i64 (w64 ((w64 ((w64 ((w64 (u1 - (w64 (u0.Add * u2)))).tdiv r171)).tdiv r261)) * (w64 (x11.tdiv r216))))) ?_; intro a1854 hF1855; clear hF1853
          refine nlH (hQ1847 _ _ ?_); clear hQ1847 hQ1847Q
          refine sqH ?_; intro hQ1856Q hQ1856
          refine s1 hF1855 160 (.int .i64 (w64 ((w64 ((w64 ((w64 (u1 - (w64 (u0.Add * u2)))).tdiv r171)).tdiv r261)) * (w64 (x11.tdiv r216))))) ?_; intro a1857 hF1858; clear hF1855
          refine s1 hF1858 161 (.int .i64 ((boundsS u0).1)) ?_; intro a1859 hF1860; clear hF1858
          refine s1 hF1860 162 (.bool (decide ((w64 ((w64 ((w64 ((w64 (u1 - (w64 (u0.Add * u2)))).tdiv r171)).tdiv r261)) * (w64 (x11.tdiv r216)))) < ((boundsS u0).1)))) ?_; intro a1861 hF1862; clear hF1860
          refine s1 hF1862 163 (.bool (decide ((w64 ((w64 ((w64 ((w64 (u1 - (w64 (u0.Add * u2)))).tdiv r171)).tdiv r261)) * (w64 (x11.tdiv r216)))) < ((boundsS u0).1)))) ?_; intro a1863 hF1864; clear hF1862
          have hF1865 := hF1864.atom ((decide ((w64 ((w64 ((w64 ((w64 (u1 - (w64 (u0.Add * u2)))).tdiv r171)).tdiv r261)) * (w64 (x11.tdiv r216)))) < ((boundsS u0).1))) == false) (by kernel_rfl); clear hF1864
          refine gp hF1865 164 0 [] (decide ((w64 ((w64 ((w64 ((w64 (u1 - (w64 (u0.Add * u2)))).tdiv r171)).tdiv r261)) * (w64 (x11.tdiv r216)))) < ((boundsS u0).1))) (.int .i64 (w64 ((w64 ((w64 ((w64 (u1 - (w64 (u0.Add * u2)))).tdiv r171)).tdiv r261)) * (w64 (x11.tdiv r216))))) rfl rfl ?_; intro a1866 hF1867; clear hF1865
          refine gp hF1867 165 0 [] (decide ((w64 ((w64 ((w64 ((w64 (u1 - (w64 (u0.Add * u2)))).tdiv r171)).tdiv r261)) * (w64 (x11.tdiv r216)))) < ((boundsS u0).1))) (.int .i64 ((boundsS u0).2)) rfl rfl ?_; intro a1868 hF1869; clear hF1867
          refine gp hF1869 166 0 [] (decide ((w64 ((w64 ((w64 ((w64 (u1 - (w64 (u0.Add * u2)))).tdiv r171)).tdiv r261)) * (w64 (x11.tdiv r216)))) < ((boundsS u0).1))) (.bool (decide ((w64 ((w64 ((w64 ((w64 (u1 - (w64 (u0.Add * u2)))).tdiv r171)).tdiv r261)) * (w64 (x11.tdiv r216)))) > ((boundsS u0).2)))) rfl rfl ?_; intro a1870 hF1871; clear hF1869
          refine st hF1871 (.bool ((decide ((w64 ((w64 ((w64 ((w64 (u1 - (w64 (u0.Add * u2)))).tdiv r171)).tdiv r261)) * (w64 (x11.tdiv r216)))) < ((boundsS u0).1))) || (decide ((w64 ((w64 ((w64 ((w64 (u1 - (w64 (u0.Add * u2)))).tdiv r171)).tdiv r261)) * (w64 (x11.tdiv r216)))) > ((boundsS u0).2))))) (nog rfl _) rfl (by kernel_rfl) (pk_or hF1871 (g := []) (m := 0) (b := decide ((w64 ((w64 ((w64 ((w64 (u1 - (w64 (u0.Add * u2)))).tdiv r171)).tdiv r261)) * (w64 (x11.tdiv r216)))) < ((boundsS u0).1))) (v := decide ((w64 ((w64 ((w64 ((w64 (u1 - (w64 (u0.Add * u2)))).tdiv r171)).tdiv r261)) * (w64 (x11.tdiv r216)))) > ((boundsS u0).2))) rfl (by kernel_rfl) (by kernel_rfl) (by kernel_rfl) rfl) ?_; intro a1872 hF1873; clear hF1871
          refine nlH (hQ1856 _ _ ?_); clear hQ1856 hQ1856Q
          refine cd hF1873 (t := (decide ((w64 ((w64 ((w64 ((w64 (u1 - (w64 (u0.Add * u2)))).tdiv r171)).tdiv r261)) * (w64 (x11.tdiv r216)))) < ((boundsS u0).1))) || (decide ((w64 ((w64 ((w64 ((w64 (u1 - (w64 (u0.Add * u2)))).tdiv r171)).tdiv r261)) * (w64 (x11.tdiv r216)))) > ((boundsS u0).2)))) (by kernel_rfl) (fun hb1874 => ?_) (fun hb1874 => ?_)
          ·
           have hp1875 := hp1833.1 hb1874; clear hp1833
           have hF1876 : Fr 171 [] [] a1872 := hF1873.reg; clear hF1873
           refine sqH ?_; intro hQ1877Q hQ1877
           refine s1 hF1876 6 (.int .i64 0) ?_; intro a1878 hF1879; clear hF1876
           refine s1 hF1879 7 (.int .i64 3) ?_; intro a1880 hF1881; clear hF1879
           refine nlH (hQ1877 _ _ ?_); clear hQ1877 hQ1877Q
           refine wp_ret ?_
           refine thr ?_
           refine rt (fn := Tryd.f13) (v := .tuple #[.int .i64 0, .int .i64 3]) hF1881 (re2 hF1881 (fn := Tryd.f13) rfl (by kernel_rfl) (by kernel_rfl)) ?_
           exact ⟨(0, 3), rfl, hp1875, hM333.below⟩
          ·
           have hp1882 := hp1833.2 hb1874; clear hp1833
           refine wp_skip ?_
           refine thn ?_
           have hF1883 : Fr 171 [] [⟨9, [], .int .i64 (w64 ((w64 ((w64 (u1 - (w64 (u0.Add * u2)))).tdiv r171)).tdiv r261))⟩, ⟨11, [], .int .i64 (w64 (x11.tdiv r216))⟩] a1872 := hF1873.reg; clear hF1873
           refine sqH ?_; intro hQ1884Q hQ1884
           refine s1 hF1883 168 (.int .i64 (w64 ((w64 ((w64 (u1 - (w64 (u0.Add * u2)))).tdiv r171)).tdiv r261))) ?_; intro a1885 hF1886; clear hF1883
           refine s1 hF1886 169 (.int .i64 (w64 (x11.tdiv r216))) ?_; intro a1887 hF1888; clear hF1886
           refine s1 hF1888 170 (.int .i64 (w64 ((w64 ((w64 ((w64 (u1 - (w64 (u0.Add * u2)))).tdiv r171)).tdiv r261)) * (w64 (x11.tdiv r216))))) ?_; intro a1889 hF1890; clear hF1888
           refine s1 hF1890 6 (.int .i64 (w64 ((w64 ((w64 ((w64 (u1 - (w64 (u0.Add * u2)))).tdiv r171)).tdiv r261)) * (w64 (x11.tdiv r216))))) ?_; intro a1891 hF1892; clear hF1890
           refine s1 hF1892 7 (.int .i64 0) ?_; intro a1893 hF1894; clear hF1892
           refine nlH (hQ1884 _ _ ?_); clear hQ1884 hQ1884Q
           refine wp_ret ?_
           refine rt (fn := Tryd.f13) (v := .tuple #[.int .i64 (w64 ((w64 ((w64 ((w64 (u1 - (w64 (u0.Add * u2)))).tdiv r171)).tdiv r261)) * (w64 (x11.tdiv r216)))), .int .i64 0]) hF1894 (re2 hF1894 (fn := Tryd.f13) rfl (by kernel_rfl) (by kernel_rfl)) ?_
           exact ⟨(w64 ((w64 ((w64 ((w64 (u1 - (w64 (u0.Add * u2)))).tdiv r171)).tdiv r261)) * (w64 (x11.tdiv r216))), 0), rfl, hp1882, hM333.below⟩
      ·
       have hp1895 := hp1384.2 hb1419; clear hp1384
       have hF1896 := hF1418.reval (d := 119) (c := []) (v := .bool ((decide ((w64 ((w64 ((w64 (u1 - (w64 (u0.Add * u2)))).tdiv r171)).tdiv r261)) < 0)) && (decide ((w64 (x11.tdiv r216)) > 0)))) (by kernel_rfl) (.bool false) (by rw [hb1419]); clear hF1418
       have hF1897 := hF1896.setc (d := 120) (c := [3]) (v := .int .i64 (w64 ((w64 ((w64 (u1 - (w64 (u0.Add * u2)))).tdiv r171)).tdiv r261))) (by kernel_rfl) (v' := undef) (by rw [hb1419]; kernel_rfl); clear hF1896
       have hF1898 := hF1897.setc (d := 121) (c := [3]) (v := .int .i64 ((boundsS u0).1)) (by kernel_rfl) (v' := undef) (by rw [hb1419]; kernel_rfl); clear hF1897
       have hF1899 := hF1898.setc (d := 122) (c := [3]) (v := .int .i64 (w64 (x11.tdiv r216))) (by kernel_rfl) (v' := undef) (by rw [hb1419]; kernel_rfl); clear hF1898
       refine sk hF1899 (b := false) rfl rfl (by kernel_rfl) (by kernel_rfl) rfl rfl (by kernel_rfl) ?_; intro a1900 hF1901; clear hF1899
       refine sk hF1901 (b := false) rfl rfl (by kernel_rfl) (by kernel_rfl) rfl rfl (by kernel_rfl) ?_; intro a1902 hF1903; clear hF1901
       refine st hF1903 (.bool false) (by rw [wanted_of hF1903 (b := false) rfl rfl (by kernel_rfl) (by kernel_rfl)]; rfl) rfl (by kernel_rfl) (p0 hF1903 (by kernel_rfl)) ?_; intro a1904 hF1905; clear hF1903
       refine s1 hF1905 126 (.bool false) ?_; intro a1906 hF1907; clear hF1905
       refine s1 hF1907 127 (.bool false) ?_; intro a1908 hF1909; clear hF1907
       refine st hF1909 (.int .i64 (w64 ((w64 ((w64 (u1 - (w64 (u0.Add * u2)))).tdiv r171)).tdiv r261))) (by rw [wanted_of hF1909 (b := false) rfl rfl (by kernel_rfl) (by kernel_rfl)]; rfl) rfl (by kernel_rfl) (p0 hF1909 (by kernel_rfl)) ?_; intro a1910 hF1911; clear hF1909
       refine st hF1911 (.bool (decide ((w64 ((w64 ((w64 (u1 - (w64 (u0.Add * u2)))).tdiv r171)).tdiv r261)) > 0))) (by rw [wanted_of hF1911 (b := false) rfl rfl (by kernel_rfl) (by kernel_rfl)]; rfl) rfl (by kernel_rfl) (p0 hF1911 (by kernel_rfl)) ?_; intro a1912 hF1913; clear hF1911
       refine st hF1913 (.bool (decide ((w64 ((w64 ((w64 (u1 - (w64 (u0.Add * u2)))).tdiv r171)).tdiv r261)) > 0))) (by rw [wanted_of hF1913 (b := false) rfl rfl (by kernel_rfl) (by kernel_rfl)]; rfl) rfl (by kernel_rfl) (p0 hF1913 (by kernel_rfl)) ?_; intro a1914 hF1915; clear hF1913
       refine gp hF1915 131 0 [] (decide ((w64 ((w64 ((w64 (u1 - (w64 (u0.Add * u2)))).tdiv r171)).tdiv r261)) > 0)) (.int .i64 (w64 (x11.tdiv r216))) rfl rfl ?_; intro a1916 hF1917; clear hF1915
       refine gp hF1917 132 0 [] (decide ((w64 ((w64 ((w64 (u1 - (w64 (u0.Add * u2)))).tdiv r171)).tdiv r261)) > 0)) (.bool (decide ((w64 (x11.tdiv r216)) < 0))) rfl rfl ?_; intro a1918 hF1919; clear hF1917
       refine st hF1919 (.bool ((decide ((w64 ((w64 ((w64 (u1 - (w64 (u0.Add * u2)))).tdiv r171)).tdiv r261)) > 0)) && (decide ((w64 (x11.tdiv r216)) < 0)))) (by rw [wanted_of hF1919 (b := false) rfl rfl (by kernel_rfl) (by kernel_rfl)]; rfl) rfl (by kernel_rfl) (pk_and hF1919 (g := []) (m := 0) (b := decide ((w64 ((w64 ((w64 (u1 - (w64 (u0.Add * u2)))).tdiv r171)).tdiv r261)) > 0)) (v := decide ((w64 (x11.tdiv r216)) < 0)) rfl (by kernel_rfl) (by kernel_rfl) (by kernel_rfl) rfl) ?_; intro a1920 hF1921; clear hF1919
       refine st hF1921 (.bool ((decide ((w64 ((w64 ((w64 (u1 - (w64 (u0.Add * u2)))).tdiv r171)).tdiv r261)) > 0)) && (decide ((w64 (x11.tdiv r216)) < 0)))) (by rw [wanted_of hF1921 (b := false) rfl rfl (by kernel_rfl) (by kernel_rfl)]; rfl) rfl (by kernel_rfl) (p0 hF1921 (by kernel_rfl)) ?_; intro a1922 hF1923; clear hF1921
       have hF1924 := hF1923.atom (((decide ((w64 ((w64 ((w64 (u1 - (w64 (u0.Add * u2)))).tdiv r171)).tdiv r261)) > 0)) && (decide ((w64 (x11.tdiv r216)) < 0))) == true) (by kernel_rfl); clear hF1923
       refine gp hF1924 135 4 [] ((decide ((w64 ((w64 ((w64 (u1 - (w64 (u0.Add * u2)))).tdiv r171)).tdiv r261)) > 0)) && (decide ((w64 (x11.tdiv r216)) < 0))) (.int .i64 (w64 ((w64 ((w64 (u1 - (w64 (u0.Add * u2)))).tdiv r171)).tdiv r261))) rfl rfl ?_; intro a1925 hF1926; clear hF1924
       refine gp hF1926 136 4 [] ((decide ((w64 ((w64 ((w64 (u1 - (w64 (u0.Add * u2)))).tdiv r171)).tdiv r261)) > 0)) && (decide ((w64 (x11.tdiv r216)) < 0))) (.int .i64 ((boundsS u0).1)) rfl rfl ?_; intro a1927 hF1928; clear hF1926
       refine gp hF1928 137 4 [] ((decide ((w64 ((w64 ((w64 (u1 - (w64 (u0.Add * u2)))).tdiv r171)).tdiv r261)) > 0)) && (decide ((w64 (x11.tdiv r216)) < 0))) (.int .i64 (w64 (x11.tdiv r216))) rfl rfl ?_; intro a1929 hF1930; clear hF1928
       rcases Bool.eq_false_or_eq_true ((decide ((w64 ((w64 ((w64 (u1 - (w64 (u0.Add * u2)))).tdiv r171)).tdiv r261)) > 0)) && (decide ((w64 (x11.tdiv r216)) < 0))) with hb1931 | hb1931
       ·
        have hp1932 := hp1895.1 hb1931; clear hp1895
        have hF1933 := hF1930.reval (d := 134) (c := []) (v := .bool ((decide ((w64 ((w64 ((w64 (u1 - (w64 (u0.Add * u2)))).tdiv r171)).tdiv r261)) > 0)) && (decide ((w64 (x11.tdiv r216)) < 0)))) (by kernel_rfl) (.bool true) (by rw [hb1931]); clear hF1930
        have hF1934 := hF1933.setc (d := 135) (c := [4]) (v := .int .i64 (w64 ((w64 ((w64 (u1 - (w64 (u0.Add * u2)))).tdiv r171)).tdiv r261))) (by kernel_rfl) (v' := .int .i64 (w64 ((w64 ((w64 (u1 - (w64 (u0.Add * u2)))).tdiv r171)).tdiv r261))) (by rw [hb1931]; kernel_rfl); clear hF1933
        have hF1935 := hF1934.setc (d := 136) (c := [4]) (v := .int .i64 ((boundsS u0).1)) (by kernel_rfl) (v' := .int .i64 ((boundsS u0).1)) (by rw [hb1931]; kernel_rfl); clear hF1934
        have hF1936 := hF1935.setc (d := 137) (c := [4]) (v := .int .i64 (w64 (x11.tdiv r216))) (by kernel_rfl) (v' := .int .i64 (w64 (x11.tdiv r216))) (by rw [hb1931]; kernel_rfl); clear hF1935
        have hc1937 := hp1932.1; have hp1938 := hp1932.2; clear hp1932
        refine st hF1936 (.int .i64 (w64 (((boundsS u0).1).tdiv (w64 (x11.tdiv r216))))) (by rw [wanted_of hF1936 (b := true) rfl rfl (by kernel_rfl) (by kernel_rfl)]; rfl) rfl (by kernel_rfl) (quo_run hF1936 (g := []) rfl (by kernel_rfl) (by kernel_rfl) hc1937 rfl) ?_; intro a1939 hF1940; clear hF1936
        refine st hF1940 (.bool (decide ((w64 ((w64 ((w64 (u1 - (w64 (u0.Add * u2)))).tdiv r171)).tdiv r261)) > (w64 (((boundsS u0).1).tdiv (w64 (x11.tdiv r216))))))) (by rw [wanted_of hF1940 (b := true) rfl rfl (by kernel_rfl) (by kernel_rfl)]; rfl) rfl (by kernel_rfl) (p0 hF1940 (by kernel_rfl)) ?_; intro a1941 hF1942; clear hF1940
        refine st hF1942 (.bool (decide ((w64 ((w64 ((w64 (u1 - (w64 (u0.Add * u2)))).tdiv r171)).tdiv r261)) > (w64 (((boundsS u0).1).tdiv (w64 (x11.tdiv r216))))))) (by rw [wanted_of hF1942 (b := false) rfl rfl (by kernel_rfl) (by kernel_rfl)]; rfl) rfl (by kernel_rfl) (p0 hF1942 (by kernel_rfl)) ?_; intro a1943 hF1944; clear hF1942
        refine s1 hF1944 141 (.bool (decide ((w64 ((w64 ((w64 (u1 - (w64 (u0.Add * u2)))).tdiv r171)).tdiv r261)) > (w64 (((boundsS u0).1).tdiv (w64 (x11.tdiv r216))))))) ?_; intro a1945 hF1946; clear hF1944
        refine s1 hF1946 142 (.bool (decide ((w64 ((w64 ((w64 (u1 - (w64 (u0.Add * u2)))).tdiv r171)).tdiv r261)) > (w64 (((boundsS u0).1).tdiv (w64 (x11.tdiv r216))))))) ?_; intro a1947 hF1948; clear hF1946
        have hF1949 := hF1948.atom ((decide ((w64 ((w64 ((w64 (u1 - (w64 (u0.Add * u2)))).tdiv r171)).tdiv r261)) > (w64 (((boundsS u0).1).tdiv (w64 (x11.tdiv r216)))))) == false) (by kernel_rfl); clear hF1948
        refine gp hF1949 143 5 [] (decide ((w64 ((w64 ((w64 (u1 - (w64 (u0.Add * u2)))).tdiv r171)).tdiv r261)) > (w64 (((boundsS u0).1).tdiv (w64 (x11.tdiv r216)))))) (.int .i64 (w64 ((w64 ((w64 (u1 - (w64 (u0.Add * u2)))).tdiv r171)).tdiv r261))) rfl rfl ?_; intro a1950 hF1951; clear hF1949
        refine gp hF1951 144 5 [] (decide ((w64 ((w64 ((w64 (u1 - (w64 (u0.Add * u2)))).tdiv r171)).tdiv r261)) > (w64 (((boundsS u0).1).tdiv (w64 (x11.tdiv r216)))))) (.bool (decide ((w64 ((w64 ((w64 (u1 - (w64 (u0.Add * u2)))).tdiv r171)).tdiv r261)) < 0))) rfl rfl ?_; intro a1952 hF1953; clear hF1951
        refine gp hF1953 145 5 [] (decide ((w64 ((w64 ((w64 (u1 - (w64 (u0.Add * u2)))).tdiv r171)).tdiv r261)) > (w64 (((boundsS u0).1).tdiv (w64 (x11.tdiv r216)))))) (.bool (decide ((w64 ((w64 ((w64 (u1 - (w64 (u0.Add * u2)))).tdiv r171)).tdiv r261)) < 0))) rfl rfl ?_; intro a1954 hF1955; clear hF1953
        refine gp hF1955 146 2 [5] (decide ((w64 ((w64 ((w64 (u1 - (w64 (u0.Add * u2)))).tdiv r171)).tdiv r261)) < 0)) (.int .i64 (w64 (x11.tdiv r216))) rfl rfl ?_; intro a1956 hF1957; clear hF1955
        refine gp hF1957 147 2 [5] (decide ((w64 ((w64 ((w64 (u1 - (w64 (u0.Add * u2)))).tdiv r171)).tdiv r261)) < 0)) (.bool (decide ((w64 (x11.tdiv r216)) < 0))) rfl rfl ?_; intro a1958 hF1959; clear hF1957
        refine gd hF1959 (.bool ((decide ((w64 ((w64 ((w64 (u1 - (w64 (u0.Add * u2)))).tdiv r171)).tdiv r261)) < 0)) && (decide ((w64 (x11.tdiv r216)) < 0)))) (m := 5) (cj := []) (bj := decide ((w64 ((w64 ((w64 (u1 - (w64 (u0.Add * u2)))).tdiv r171)).tdiv r261)) > (w64 (((boundsS u0).1).tdiv (w64 (x11.tdiv r216)))))) rfl rfl (by kernel_rfl) rfl (by kernel_rfl) (by kernel_rfl) (by kernel_rfl) (fun hg => pk_and hF1959 (g := [5]) (m := 2) (b := decide ((w64 ((w64 ((w64 (u1 - (w64 (u0.Add * u2)))).tdiv r171)).tdiv r261)) < 0)) (v := decide ((w64 (x11.tdiv r216)) < 0)) rfl (by kernel_rfl) (by kernel_rfl) (by kernel_rfl) hg) ?_; intro a1960 hF1961; clear hF1959
        refine gp hF1961 149 5 [] (decide ((w64 ((w64 ((w64 (u1 - (w64 (u0.Add * u2)))).tdiv r171)).tdiv r261)) > (w64 (((boundsS u0).1).tdiv (w64 (x11.tdiv r216)))))) (.bool ((decide ((w64 ((w64 ((w64 (u1 - (w64 (u0.Add * u2)))).tdiv r171)).tdiv r261)) < 0)) && (decide ((w64 (x11.tdiv r216)) < 0)))) rfl rfl ?_; intro a1962 hF1963; clear hF1961
        have hF1964 := hF1963.atom (((decide ((w64 ((w64 ((w64 (u1 - (w64 (u0.Add * u2)))).tdiv r171)).tdiv r261)) < 0)) && (decide ((w64 (x11.tdiv r216)) < 0))) == true) (by kernel_rfl); clear hF1963
        refine gp hF1964 150 6 [5] ((decide ((w64 ((w64 ((w64 (u1 - (w64 (u0.Add * u2)))).tdiv r171)).tdiv r261)) < 0)) && (decide ((w64 (x11.tdiv r216)) < 0))) (.int .i64 (w64 ((w64 ((w64 (u1 - (w64 (u0.Add * u2)))).tdiv r171)).tdiv r261))) rfl rfl ?_; intro a1965 hF1966; clear hF1964
        refine gp hF1966 151 6 [5] ((decide ((w64 ((w64 ((w64 (u1 - (w64 (u0.Add * u2)))).tdiv r171)).tdiv r261)) < 0)) && (decide ((w64 (x11.tdiv r216)) < 0))) (.int .i64 ((boundsS u0).2)) rfl rfl ?_; intro a1967 hF1968; clear hF1966
        refine gp hF1968 152 6 [5] ((decide ((w64 ((w64 ((w64 (u1 - (w64 (u0.Add * u2)))).tdiv r171)).tdiv r261)) < 0)) && (decide ((w64 (x11.tdiv r216)) < 0))) (.int .i64 (w64 (x11.tdiv r216))) rfl rfl ?_; intro a1969 hF1970; clear hF1968
        rcases Bool.eq_false_or_eq_true (decide ((w64 ((w64 ((w64 (u1 - (w64 (u0.Add * u2)))).tdiv r171)).tdiv r261)) > (w64 (((boundsS u0).1).tdiv (w64 (x11.tdiv r216)))))) with hb1971 | hb1971
        ·
         have hp1972 := hp1938.1 hb1971; clear hp1938
         have hF1973 := hF1970.reval (d := 142) (c := []) (v := .bool (decide ((w64 ((w64 ((w64 (u1 - (w64 (u0.Add * u2)))).tdiv r171)).tdiv r261)) > (w64 (((boundsS u0).1).tdiv (w64 (x11.tdiv r216))))))) (by kernel_rfl) (.bool true) (by rw [hb1971]); clear hF1970
         have hF1974 := hF1973.setc (d := 143) (c := [5]) (v := .int .i64 (w64 ((w64 ((w64 (u1 - (w64 (u0.Add * u2)))).tdiv r171)).tdiv r261))) (by kernel_rfl) (v' := undef) (by rw [hb1971]; kernel_rfl); clear hF1973
         have hF1975 := hF1974.setc (d := 144) (c := [5]) (v := .bool (decide ((w64 ((w64 ((w64 (u1 - (w64 (u0.Add * u2)))).tdiv r171)).tdiv r261)) < 0))) (by kernel_rfl) (v' := undef) (by rw [hb1971]; kernel_rfl); clear hF1974
         have hF1976 := hF1975.setc (d := 145) (c := [5]) (v := .bool (decide ((w64 ((w64 ((w64 (u1 - (w64 (u0.Add * u2)))).tdiv r171)).tdiv r261)) < 0))) (by kernel_rfl) (v' := undef) (by rw [hb1971]; kernel_rfl); clear hF1975
         have hF1977 := hF1976.setc (d := 148) (c := [5]) (v := .bool ((decide ((w64 ((w64 ((w64 (u1 - (w64 (u0.Add * u2)))).tdiv r171)).tdiv r261)) < 0)) && (decide ((w64 (x11.tdiv r216)) < 0)))) (by kernel_rfl) (v' := undef) (by rw [hb1971]; kernel_rfl); clear hF1976
         have hF1978 := hF1977.setc (d := 149) (c := [5]) (v := .bool ((decide ((w64 ((w64 ((w64 (u1 - (w64 (u0.Add * u2)))).tdiv r171)).tdiv r261)) < 0)) && (decide ((w64 (x11.tdiv r216)) < 0)))) (by kernel_rfl) (v' := undef) (by rw [hb1971]; kernel_rfl); clear hF1977
         refine sku hF1978 rfl rfl (by kernel_rfl) (by kernel_rfl) rfl (by kernel_rfl) ?_; intro a1979 hF1980; clear hF1978
         refine sku hF1980 rfl rfl (by kernel_rfl) (by kernel_rfl) rfl (by kernel_rfl) ?_; intro a1981 hF1982; clear hF1980
         refine sk hF1982 (b := true) rfl rfl (by kernel_rfl) (by kernel_rfl) rfl rfl (by kernel_rfl) ?_; intro a1983 hF1984; clear hF1982
         refine s1 hF1984 156 (.bool true) ?_; intro a1985 hF1986; clear hF1984
         refine nlH (hQ344 _ _ ?_); clear hQ344 hQ344Q
         refine cdT hF1986 (by kernel_rfl) ?_
         have hF1987 : Fr 171 [] [] a1985 := hF1986.reg; clear hF1986
         refine sqH ?_; intro hQ1988Q hQ1988
         refine s1 hF1987 6 (.int .i64 0) ?_; intro a1989 hF1990; clear hF1987
         refine s1 hF1990 7 (.int .i64 3) ?_; intro a1991 hF1992; clear hF1990
         refine nlH (hQ1988 _ _ ?_); clear hQ1988 hQ1988Q
         refine wp_ret ?_
         refine thr ?_
         refine rt (fn := Tryd.f13) (v := .tuple #[.int .i64 0, .int .i64 3]) hF1992 (re2 hF1992 (fn := Tryd.f13) rfl (by kernel_rfl) (by kernel_rfl)) ?_
         exact ⟨(0, 3), rfl, hp1972, hM333.below⟩
        ·
         have hp1993 := hp1938.2 hb1971; clear hp1938
         have hF1994 := hF1970.reval (d := 142) (c := []) (v := .bool (decide ((w64 ((w64 ((w64 (u1 - (w64 (u0.Add * u2)))).tdiv r171)).tdiv r261)) > (w64 (((boundsS u0).1).tdiv (w64 (x11.tdiv r216))))))) (by kernel_rfl) (.bool false) (by rw [hb1971]); clear hF1970
         have hF1995 := hF1994.setc (d := 143) (c := [5]) (v := .int .i64 (w64 ((w64 ((w64 (u1 - (w64 (u0.Add * u2)))).tdiv r171)).tdiv r261))) (by kernel_rfl) (v' := .int .i64 (w64 ((w64 ((w64 (u1 - (w64 (u0.Add * u2)))).tdiv r171)).tdiv r261))) (by rw [hb1971]; kernel_rfl); clear hF1994
         have hF1996 := hF1995.setc (d := 144) (c := [5]) (v := .bool (decide ((w64 ((w64 ((w64 (u1 - (w64 (u0.Add * u2)))).tdiv r171)).tdiv r261)) < 0))) (by kernel_rfl) (v' := .bool (decide ((w64 ((w64 ((w64 (u1 - (w64 (u0.Add * u2)))).tdiv r171)).tdiv r261)) < 0))) (by rw [hb1971]; kernel_rfl); clear hF1995
         have hF1997 := hF1996.setc (d := 145) (c := [5]) (v := .bool (decide ((w64 ((w64 ((w64 (u1 - (w64 (u0.Add * u2)))).tdiv r171)).tdiv r261)) < 0))) (by kernel_rfl) (v' := .bool (decide ((w64 ((w64 ((w64 (u1 - (w64 (u0.Add * u2)))).tdiv r171)).tdiv r261)) < 0))) (by rw [hb1971]; kernel_rfl); clear hF1996
         have hF1998 := hF1997.setc (d := 148) (c := [5]) (v := .bool ((decide ((w64 ((w64 ((w64 (u1 - (w64 (u0.Add * u2)))).tdiv r171)).tdiv r261)) < 0)) && (decide ((w64 (x11.tdiv r216)) < 0)))) (by kernel_rfl) (v' := .bool ((decide ((w64 ((w64 ((w64 (u1 - (w64 (u0.Add * u2)))).tdiv r171)).tdiv r261)) < 0)) && (decide ((w64 (x11.tdiv r216)) < 0)))) (by rw [hb1971]; kernel_rfl); clear hF1997
         have hF1999 := hF1998.setc (d := 149) (c := [5]) (v := .bool ((decide ((w64 ((w64 ((w64 (u1 - (w64 (u0.Add * u2)))).tdiv r171)).tdiv r261)) < 0)) && (decide ((w64 (x11.tdiv r216)) < 0)))) (by kernel_rfl) (v' := .bool ((decide ((w64 ((w64 ((w64 (u1 - (w64 (u0.Add * u2)))).tdiv r171)).tdiv r261)) < 0)) && (decide ((w64 (x11.tdiv r216)) < 0)))) (by rw [hb1971]; kernel_rfl); clear hF1998
         rcases Bool.eq_false_or_eq_true ((decide ((w64 ((w64 ((w64 (u1 - (w64 (u0.Add * u2)))).tdiv r171)).tdiv r261)) < 0)) && (decide ((w64 (x11.tdiv r216)) < 0))) with hb2000 | hb2000
         ·
          have hp2001 := hp1993.1 hb2000; clear hp1993
          have hF2002 := hF1999.reval (d := 149) (c := []) (v := .bool ((decide ((w64 ((w64 ((w64 (u1 - (w64 (u0.Add * u2)))).tdiv r171)).tdiv r261)) < 0)) && (decide ((w64 (x11.tdiv r216)) < 0)))) (by kernel_rfl) (.bool true) (by rw [hb2000]); clear hF1999
          have hF2003 := hF2002.setc (d := 150) (c := [6, 5]) (v := .int .i64 (w64 ((w64 ((w64 (u1 - (w64 (u0.Add * u2)))).tdiv r171)).tdiv r261))) (by kernel_rfl) (v' := .int .i64 (w64 ((w64 ((w64 (u1 - (w64 (u0.Add * u2)))).tdiv r171)).tdiv r261))) (by rw [hb2000, hb1971]; kernel_rfl); clear hF2002
          have hF2004 := hF2003.setc (d := 151) (c := [6, 5]) (v := .int .i64 ((boundsS u0).2)) (by kernel_rfl) (v' := .int .i64 ((boundsS u0).2)) (by rw [hb2000, hb1971]; kernel_rfl); clear hF2003
          have hF2005 := hF2004.setc (d := 152) (c := [6, 5]) (v := .int .i64 (w64 (x11.tdiv r216))) (by kernel_rfl) (v' := .int .i64 (w64 (x11.tdiv r216))) (by rw [hb2000, hb1971]; kernel_rfl); clear hF2004
          have hc2006 := hp2001.1; have hp2007 := hp2001.2; clear hp2001
          refine st hF2005 (.int .i64 (w64 (((boundsS u0).2).tdiv (w64 (x11.tdiv r216))))) (by rw [wanted_of hF2005 (b := true) rfl rfl (by kernel_rfl) (by kernel_rfl)]; rfl) rfl (by kernel_rfl) (quo_run hF2005 (g := []) rfl (by kernel_rfl) (by kernel_rfl) hc2006 rfl) ?_; intro a2008 hF2009; clear hF2005
          refine st hF2009 (.bool (decide ((w64 ((w64 ((w64 (u1 - (w64 (u0.Add * u2)))).tdiv r171)).tdiv r261)) < (w64 (((boundsS u0).2).tdiv (w64 (x11.tdiv r216))))))) (by rw [wanted_of hF2009 (b := true) rfl rfl (by kernel_rfl) (by kernel_rfl)]; rfl) rfl (by kernel_rfl) (p0 hF2009 (by kernel_rfl)) ?_; intro a2010 hF2011; clear hF2009
          refine st hF2011 (.bool (decide ((w64 ((w64 ((w64 (u1 - (w64 (u0.Add * u2)))).tdiv r171)).tdiv r261)) < (w64 (((boundsS u0).2).tdiv (w64 (x11.tdiv r216))))))) (by rw [wanted_of hF2011 (b := false) rfl rfl (by kernel_rfl) (by kernel_rfl)]; rfl) rfl (by kernel_rfl) (p0 hF2011 (by kernel_rfl)) ?_; intro a2012 hF2013; clear hF2011
          refine s1 hF2013 156 (.bool (decide ((w64 ((w64 ((w64 (u1 - (w64 (u0.Add * u2)))).tdiv r171)).tdiv r261)) < (w64 (((boundsS u0).2).tdiv (w64 (x11.tdiv r216))))))) ?_; intro a2014 hF2015; clear hF2013
          refine nlH (hQ344 _ _ ?_); clear hQ344 hQ344Q
          refine cd hF2015 (t := decide ((w64 ((w64 ((w64 (u1 - (w64 (u0.Add * u2)))).tdiv r171)).tdiv r261)) < (w64 (((boundsS u0).2).tdiv (w64 (x11.tdiv r216)))))) (by kernel_rfl) (fun hb2016 => ?_) (fun hb2016 => ?_)
          ·
           have hp2017 := hp2007.1 hb2016; clear hp2007
           have hF2018 : Fr 171 [] [] a2014 := hF2015.reg; clear hF2015
           refine sqH ?_; intro hQ2019Q hQ2019
           refine s1 hF2018 6 (.int .i64 0) ?_; intro a2020 hF2021; clear hF2018
           refine s1 hF2021 7 (.int .i64 3) ?_; intro a2022 hF2023; clear hF2021
           refine nlH (hQ2019 _ _ ?_); clear hQ2019 hQ2019Q
           refine wp_ret ?_
           refine thr ?_
           refine rt (fn := Tryd.f13) (v := .tuple #[.int .i64 0, .int .i64 3]) hF2023 (re2 hF2023 (fn := Tryd.f13) rfl (by kernel_rfl) (by kernel_rfl)) ?_
           exact ⟨(0, 3), rfl, hp2017, hM333.below⟩
          ·
           have hp2024 := hp2007.2 hb2016; clear hp2007
           refine wp_skip ?_
           refine thn ?_
           refine wp_seq ?_
           have hF2025 : Fr 171 [] [⟨9, [], .int .i64 (w64 ((w64 ((w64 (u1 - (w64 (u0.Add * u2)))).tdiv r171)).tdiv r261))⟩, ⟨11, [], .int .i64 (w64 (x11.tdiv r216))⟩, ⟨14, [], .int .i64 ((boundsS u0).1)⟩, ⟨15, [], .int .i64 ((boundsS u0).2)⟩] a2014 := hF2015.reg; clear hF2015
           refine sqH ?_; intro hQ2026Q hQ2026
           refine s1 hF2025 157 (.int .i64 (w64 ((w64 ((w64 (u1 - (w64 (u0.Add * u2)))).tdiv r171)).tdiv r261))) ?_; intro a2027 hF2028; clear hF2025
           refine s1 hF2028 158 (.int .i64 (w64 (x11.tdiv r216))) ?_; intro a2029 hF2030; clear hF2028
           refine s1 hF2030 159 (.int .i64 (w64 ((w64 ((w64 ((w64 (u1 - (w64 (u0.Add * u2)))).tdiv r171)).tdiv r261)) * (w64 (x11.tdiv r216))))) ?_; intro a2031 hF2032; clear hF2030
           refine s1 hF2032 16 (.int .i64 (w64 ((w64 ((w64 ((w64 (u1 - (w64 (u0.Add * u2)))).tdiv r171)).tdiv r261)) * (w64 (x11.tdiv r216))))) ?_; intro a2033 hF2034; clear hF2032
           refine nlH (hQ2026 _ _ ?_); clear hQ2026 hQ2026Q
           refine sqH ?_; intro hQ2035Q hQ2035
           refine s1 hF2034 160 (.int .i64 (w64 ((w64 ((w64 ((w64 (u1 - (w64 (u0.Add * u2)))).tdiv r171)).tdiv r261)) * (w64 (x11.tdiv r216))))) ?_; intro a2036 hF2037; clear hF2034
           refine s1 hF2037 161 (.int .i64 ((boundsS u0).1)) ?_; intro a2038 hF2039; clear hF2037
           refine s1 hF2039 162 (.bool (decide ((w64 ((w64 ((w64 ((w64 (u1 - (w64 (u0.Add * u2)))).tdiv r171)).tdiv r261)) * (w64 (x11.tdiv r216)))) < ((boundsS u0).1)))) ?_; intro a2040 hF2041; clear hF2039
           refine s1 hF2041 163 (.bool (decide ((w64 ((w64 ((w64 ((w64 (u1 - (w64 (u0.Add * u2)))).tdiv r171)).tdiv r261)) * (w64 (x11.tdiv r216)))) < ((boundsS u0).1)))) ?_; intro a2042 hF2043; clear hF2041
           have hF2044 := hF2043.atom ((decide ((w64 ((w64 ((w64 ((w64 (u1 - (w64 (u0.Add * u2)))).tdiv r171)).tdiv r261)) * (w64 (x11.tdiv r216)))) < ((boundsS u0).1))) == false) (by kernel_rfl); clear hF2043
           refine gp hF2044 164 0 [] (decide ((w64 ((w64 ((w64 ((w64 (u1 - (w64 (u0.Add * u2)))).tdiv r171)).tdiv r261)) * (w64 (x11.tdiv r216)))) < ((boundsS u0).1))) (.int .i64 (w64 ((w64 ((w64 ((w64 (u1 - (w64 (u0.Add * u2)))).tdiv r171)).tdiv r261)) * (w64 (x11.tdiv r216))))) rfl rfl ?_; intro a2045 hF2046; clear hF2044
           refine gp hF2046 165 0 [] (decide ((w64 ((w64 ((w64 ((w64 (u1 - (w64 (u0.Add * u2)))).tdiv r171)).tdiv r261)) * (w64 (x11.tdiv r216)))) < ((boundsS u0).1))) (.int .i64 ((boundsS u0).2)) rfl rfl ?_; intro a2047 hF2048; clear hF2046
           refine gp hF2048 166 0 [] (decide ((w64 ((w64 ((w64 ((w64 (u1 - (w64 (u0.Add * u2)))).tdiv r171)).tdiv r261)) * (w64 (x11.tdiv r216)))) < ((boundsS u0).1))) (.bool (decide ((w64 ((w64 ((w64 ((w64 (u1 - (w64 (u0.Add * u2)))).tdiv r171)).tdiv r261)) * (w64 (x11.tdiv r216)))) > ((boundsS u0).2)))) rfl rfl ?_; intro a2049 hF2050; clear hF2048
           refine st hF2050 (.bool ((decide ((w64 ((w64 ((w64 ((w64 (u1 - (w64 (u0.Add * u2)))).tdiv r171)).tdiv r261)) * (w64 (x11.tdiv r216)))) < ((boundsS u0).1))) || (decide ((w64 ((w64 ((w64 ((w64 (u1 - (w64 (u0.Add * u2)))).tdiv r171)).tdiv r261)) * (w64 (x11.tdiv r216)))) > ((boundsS u0).2))))) (nog rfl _) rfl (by kernel_rfl) (pk_or hF2050 (g := []) (m := 0) (b := decide ((w64 ((w64 ((w64 ((w64 (u1 - (w64 (u0.Add * u2)))).tdiv r171)).tdiv r261)) * (w64 (x11.tdiv r216)))) < ((boundsS u0).1))) (v := decide ((w64 ((w64 ((w64 ((w64 (u1 - (w64 (u0.Add * u2)))).tdiv r171)).tdiv r261)) * (w64 (x11.tdiv r216)))) > ((boundsS u0).2))) rfl (by kernel_rfl) (by kernel_rfl) (by kernel_rfl) rfl) ?_; intro a2051 hF2052; clear hF2050
           refine nlH (hQ2035 _ _ ?_); clear hQ2035 hQ2035Q
           refine cd hF2052 (t := (decide ((w64 ((w64 ((w64 ((w64 (u1 - (w64 (u0.Add * u2)))).tdiv r171)).tdiv r261)) * (w64 (x11.tdiv r216)))) < ((boundsS u0).1))) || (decide ((w64 ((w64 ((w64 ((w64 (u1 - (w64 (u0.Add * u2)))).tdiv r171)).tdiv r261)) * (w64 (x11.tdiv r216)))) > ((boundsS u0).2)))) (by kernel_rfl) (fun hb2053 => ?_) (fun hb2053 => ?_)
           ·
            have hp2054 := hp2024.1 hb2053; clear hp2024
            have hF2055 : Fr 171 [] [] a2051 := hF2052.reg; clear hF2052
            refine sqH ?_; intro hQ2056Q hQ2056
            refine s1 hF2055 6 (.int .i64 0) ?_; intro a2057 hF2058; clear hF2055
            refine s1 hF2058 7 (.int .i64 3) ?_; intro a2059 hF2060; clear hF2058
            refine nlH (hQ2056 _ _ ?_); clear hQ2056 hQ2056Q
            refine wp_ret ?_
            refine thr ?_
            refine rt (fn := Tryd.f13) (v := .tuple #[.int .i64 0, .int .i64 3]) hF2060 (re2 hF2060 (fn := Tryd.f13) rfl (by kernel_rfl) (by kernel_rfl)) ?_
            exact ⟨(0, 3), rfl, hp2054, hM333.below⟩
           ·
            have hp2061 := hp2024.2 hb2053; clear hp2024
            refine wp_skip ?_
            refine thn ?_
            have hF2062 : Fr 171 [] [⟨9, [], .int .i64 (w64 ((w64 ((w64 (u1 - (w64 (u0.Add * u2)))).tdiv r171)).tdiv r261))⟩, ⟨11, [], .int .i64 (w64 (x11.tdiv r216))⟩] a2051 := hF2052.reg; clear hF2052
            refine sqH ?_; intro hQ2063Q hQ2063
            refine s1 hF2062 168 (.int .i64 (w64 ((w64 ((w64 (u1 - (w64 (u0.Add * u2)))).tdiv r171)).tdiv r261))) ?_; intro a2064 hF2065; clear hF2062
            refine s1 hF2065 169 (.int .i64 (w64 (x11.tdiv r216))) ?_; intro a2066 hF2067; clear hF2065
            refine s1 hF2067 170 (.int .i64 (w64 ((w64 ((w64 ((w64 (u1 - (w64 (u0.Add * u2)))).tdiv r171)).tdiv r261)) * (w64 (x11.tdiv r216))))) ?_; intro a2068 hF2069; clear hF2067
            refine s1 hF2069 6 (.int .i64 (w64 ((w64 ((w64 ((w64 (u1 - (w64 (u0.Add * u2)))).tdiv r171)).tdiv r261)) * (w64 (x11.tdiv r216))))) ?_; intro a2070 hF2071; clear hF2069
            refine s1 hF2071 7 (.int .i64 0) ?_; intro a2072 hF2073; clear hF2071
            refine nlH (hQ2063 _ _ ?_); clear hQ2063 hQ2063Q
            refine wp_ret ?_
            refine rt (fn := Tryd.f13) (v := .tuple #[.int .i64 (w64 ((w64 ((w64 ((w64 (u1 - (w64 (u0.Add * u2)))).tdiv r171)).tdiv r261)) * (w64 (x11.tdiv r216)))), .int .i64 0]) hF2073 (re2 hF2073 (fn := Tryd.f13) rfl (by kernel_rfl) (by kernel_rfl)) ?_
            exact ⟨(w64 ((w64 ((w64 ((w64 (u1 - (w64 (u0.Add * u2)))).tdiv r171)).tdiv r261)) * (w64 (x11.tdiv r216))), 0), rfl, hp2061, hM333.below⟩
         ·
          have hp2074 := hp1993.2 hb2000; clear hp1993
          have hF2075 := hF1999.reval (d := 149) (c := []) (v := .bool ((decide ((w64 ((w64 ((w64 (u1 - (w64 (u0.Add * u2)))).tdiv r171)).tdiv r261)) < 0)) && (decide ((w64 (x11.tdiv r216)) < 0)))) (by kernel_rfl) (.bool false) (by rw [hb2000]); clear hF1999
          have hF2076 := hF2075.setc (d := 150) (c := [6, 5]) (v := .int .i64 (w64 ((w64 ((w64 (u1 - (w64 (u0.Add * u2)))).tdiv r171)).tdiv r261))) (by kernel_rfl) (v' := undef) (by rw [hb2000, hb1971]; kernel_rfl); clear hF2075
          have hF2077 := hF2076.setc (d := 151) (c := [6, 5]) (v := .int .i64 ((boundsS u0).2)) (by kernel_rfl) (v' := undef) (by rw [hb2000, hb1971]; kernel_rfl); clear hF2076
          have hF2078 := hF2077.setc (d := 152) (c := [6, 5]) (v := .int .i64 (w64 (x11.tdiv r216))) (by kernel_rfl) (v' := undef) (by rw [hb2000, hb1971]; kernel_rfl); clear hF2077
          refine sk hF2078 (b := false) rfl rfl (by kernel_rfl) (by kernel_rfl) rfl rfl (by kernel_rfl) ?_; intro a2079 hF2080; clear hF2078
          refine sk hF2080 (b := false) rfl rfl (by kernel_rfl) (by kernel_rfl) rfl rfl (by kernel_rfl) ?_; intro a2081 hF2082; clear hF2080
          refine st hF2082 (.bool false) (by rw [wanted_of hF2082 (b := false) rfl rfl (by kernel_rfl) (by kernel_rfl)]; rfl) rfl (by kernel_rfl) (p0 hF2082 (by kernel_rfl)) ?_; intro a2083 hF2084; clear hF2082
          refine s1 hF2084 156 (.bool false) ?_; intro a2085 hF2086; clear hF2084
          refine nlH (hQ344 _ _ ?_); clear hQ344 hQ344Q
          refine cdF hF2086 (by kernel_rfl) ?_
          refine wp_skip ?_
          refine thn ?_
          refine wp_seq ?_
          have hF2087 : Fr 171 [] [⟨9, [], .int .i64 (w64 ((w64 ((w64 (u1 - (w64 (u0.Add * u2)))).tdiv r171)).tdiv r261))⟩, ⟨11, [], .int .i64 (w64 (x11.tdiv r216))⟩, ⟨14, [], .int .i64 ((boundsS u0).1)⟩, ⟨15, [], .int .i64 ((boundsS u0).2)⟩] a2085 := hF2086.reg; clear hF2086
          refine sqH ?_; intro hQ2088Q hQ2088
          refine s1 hF2087 157 (.int .i64 (w64 ((w64 ((w64 (u1 - (w64 (u0.Add * u2)))).tdiv r171)).tdiv r261))) ?_; intro a2089 hF2090; clear hF2087
          refine s1 hF2090 158 (.int .i64 (w64 (x11.tdiv r216))) ?_; intro a2091 hF2092; clear hF2090
          refine s1 hF2092 159 (.int .i64 (w64 ((w64 ((w64 ((w64 (u1 - (w64 (u0.Add * u2)))).tdiv r171)).tdiv r261)) * (w64 (x11.tdiv r216))))) ?_; intro a2093 hF2094; clear hF2092
          refine s1 hF2094 16 (.int .i64 (w64 ((w64 ((w64 ((w64 (u1 - (w64 (u0.Add * u2)))).tdiv r171)).tdiv r261)) * (w64 (x11.tdiv r216))))) ?_; intro a2095 hF2096; clear hF2094
          refine nlH (hQ2088 _ _ ?_); clear hQ2088 hQ2088Q
          refine sqH ?_; intro hQ2097Q hQ2097
          refine s1 hF2096 160 (.int .i64 (w64 ((w64 ((w64 ((w64 (u1 - (w64 (u0.Add * u2)))).tdiv r171)).tdiv r261)) * (w64 (x11.tdiv r216))))) ?_; intro a2098 hF2099; clear hF2096
          refine s1 hF2099 161 (.int .i64 ((boundsS u0).1)) ?_; intro a2100 hF2101; clear hF2099
          refine s1 hF2101 162 (.bool (decide ((w64 ((w64 ((w64 ((w64 (u1 - (w64 (u0.Add * u2)))).tdiv r171)).tdiv r261)) * (w64 (x11.tdiv r216)))) < ((boundsS u0).1)))) ?_; intro a2102 hF2103; clear hF2101
          refine s1 hF2103 163 (.bool (decide ((w64 ((w64 ((w64 ((w64 (u1 - (w64 (u0.Add * u2)))).tdiv r171)).tdiv r261)) * (w64 (x11.tdiv r216)))) < ((boundsS u0).1)))) ?_; intro a2104 hF2105; clear hF2103
          have hF2106 := hF2105.atom ((decide ((w64 ((w64 ((w64 ((w64 (u1 - (w64 (u0.Add * u2)))).tdiv r171)).tdiv r261)) * (w64 (x11.tdiv r216)))) < ((boundsS u0).1))) == false) (by kernel_rfl); clear hF2105
          refine gp hF2106 164 0 [] (decide ((w64 ((w64 ((w64 ((w64 (u1 - (w64 (u0.Add * u2)))).tdiv r171)).tdiv r261)) * (w64 (x11.tdiv r216)))) < ((boundsS u0).1))) (.int .i64 (w64 ((w64 ((w64 ((w64 (u1 - (w64 (u0.Add * u2)))).tdiv r171)).tdiv r261)) * (w64 (x11.tdiv r216))))) rfl rfl ?_; intro a2107 hF2108; clear hF2106
          refine gp hF2108 165 0 [] (decide ((w64 ((w64 ((w64 ((w64 (u1 - (w64 (u0.Add * u2)))).tdiv r171)).tdiv r261)) * (w64 (x11.tdiv r216)))) < ((boundsS u0).1))) (.int .i64 ((boundsS u0).2)) rfl rfl ?_; intro a2109 hF2110; clear hF2108
          refine gp hF2110 166 0 [] (decide ((w64 ((w64 ((w64 ((w64 (u1 - (w64 (u0.Add * u2)))).tdiv r171)).tdiv r261)) * (w64 (x11.tdiv r216)))) < ((boundsS u0).1))) (.bool (decide ((w64 ((w64 ((w64 ((w64 (u1 - (w64 (u0.Add * u2)))).tdiv r171)).tdiv r261)) * (w64 (x11.tdiv r216)))) > ((boundsS u0).2)))) rfl rfl ?_; intro a2111 hF2112; clear hF2110
          refine st hF2112 (.bool ((decide ((w64 ((w64 ((w64 ((w64 (u1 - (w64 (u0.Add * u2)))).tdiv r171)).tdiv r261)) * (w64 (x11.tdiv r216)))) < ((boundsS u0).1))) || (decide ((w64 ((w64 ((w64 ((w64 (u1 - (w64 (u0.Add * u2)))).tdiv r171)).tdiv r261)) * (w64 (x11.tdiv r216)))) > ((boundsS u0).2))))) (nog rfl _) rfl (by kernel_rfl) (pk_or hF2112 (g := []) (m := 0) (b := decide ((w64 ((w64 ((w64 ((w64 (u1 - (w64 (u0.Add * u2)))).tdiv r171)).tdiv r261)) * (w64 (x11.tdiv r216)))) < ((boundsS u0).1))) (v := decide ((w64 ((w64 ((w64 ((w64 (u1 - (w64 (u0.Add * u2)))).tdiv r171)).tdiv r261)) * (w64 (x11.tdiv r216)))) > ((boundsS u0).2))) rfl (by kernel_rfl) (by kernel_rfl) (by kernel_rfl) rfl) ?_; intro a2113 hF2114; clear hF2112
          refine nlH (hQ2097 _ _ ?_); clear hQ2097 hQ2097Q
          refine cd hF2114 (t := (decide ((w64 ((w64 ((w64 ((w64 (u1 - (w64 (u0.Add * u2)))).tdiv r171)).tdiv r261)) * (w64 (x11.tdiv r216)))) < ((boundsS u0).1))) || (decide ((w64 ((w64 ((w64 ((w64 (u1 - (w64 (u0.Add * u2)))).tdiv r171)).tdiv r261)) * (w64 (x11.tdiv r216)))) > ((boundsS u0).2)))) (by kernel_rfl) (fun hb2115 => ?_) (fun hb2115 => ?_)
          ·
           have hp2116 := hp2074.1 hb2115; clear hp2074
           have hF2117 : Fr 171 [] [] a2113 := hF2114.reg; clear hF2114
           refine sqH ?_; intro hQ2118Q hQ2118
           refine s1 hF2117 6 (.int .i64 0) ?_; intro a2119 hF2120; clear hF2117
           refine s1 hF2120 7 (.int .i64 3) ?_; intro a2121 hF2122; clear hF2120
           refine nlH (hQ2118 _ _ ?_); clear hQ2118 hQ2118Q
           refine wp_ret ?_
           refine thr ?_
           refine rt (fn := Tryd.f13) (v := .tuple #[.int .i64 0, .int .i64 3]) hF2122 (re2 hF2122 (fn := Tryd.f13) rfl (by kernel_rfl) (by kernel_rfl)) ?_
           exact ⟨(0, 3), rfl, hp2116, hM333.below⟩
          ·
           have hp2123 := hp2074.2 hb2115; clear hp2074
           refine wp_skip ?_
           refine thn ?_
           have hF2124 : Fr 171 [] [⟨9, [], .int .i64 (w64 ((w64 ((w64 (u1 - (w64 (u0.Add * u2)))).tdiv r171)).tdiv r261))⟩, ⟨11, [], .int .i64 (w64 (x11.tdiv r216))⟩] a2113 := hF2114.reg; clear hF2114
           refine sqH ?_; intro hQ2125Q hQ2125
           refine s1 hF2124 168 (.int .i64 (w64 ((w64 ((w64 (u1 - (w64 (u0.Add * u2)))).tdiv r171)).tdiv r261))) ?_; intro a2126 hF2127; clear hF2124
           refine s1 hF2127 169 (.int .i64 (w64 (x11.tdiv r216))) ?_; intro a2128 hF2129; clear hF2127
           refine s1 hF2129 170 (.int .i64 (w64 ((w64 ((w64 ((w64 (u1 - (w64 (u0.Add * u2)))).tdiv r171)).tdiv r261)) * (w64 (x11.tdiv r216))))) ?_; intro a2130 hF2131; clear hF2129
           refine s1 hF2131 6 (.int .i64 (w64 ((w64 ((w64 ((w64 (u1 - (w64 (u0.Add * u2)))).tdiv r171)).tdiv r261)) * (w64 (x11.tdiv r216))))) ?_; intro a2132 hF2133; clear hF2131
           refine s1 hF2133 7 (.int .i64 0) ?_; intro a2134 hF2135; clear hF2133
           refine nlH (hQ2125 _ _ ?_); clear hQ2125 hQ2125Q
           refine wp_ret ?_
           refine rt (fn := Tryd.f13) (v := .tuple #[.int .i64 (w64 ((w64 ((w64 ((w64 (u1 - (w64 (u0.Add * u2)))).tdiv r171)).tdiv r261)) * (w64 (x11.tdiv r216)))), .int .i64 0]) hF2135 (re2 hF2135 (fn := Tryd.f13) rfl (by kernel_rfl) (by kernel_rfl)) ?_
           exact ⟨(w64 ((w64 ((w64 ((w64 (u1 - (w64 (u0.Add * u2)))).tdiv r171)).tdiv r261)) * (w64 (x11.tdiv r216))), 0), rfl, hp2123, hM333.below⟩
       ·
        have hp2136 := hp1895.2 hb1931; clear hp1895
        have hF2137 := hF1930.reval (d := 134) (c := []) (v := .bool ((decide ((w64 ((w64 ((w64 (u1 - (w64 (u0.Add * u2)))).tdiv r171)).tdiv r261)) > 0)) && (decide ((w64 (x11.tdiv r216)) < 0)))) (by kernel_rfl) (.bool false) (by rw [hb1931]); clear hF1930
        have hF2138 := hF2137.setc (d := 135) (c := [4]) (v := .int .i64 (w64 ((w64 ((w64 (u1 - (w64 (u0.Add * u2)))).tdiv r171)).tdiv r261))) (by kernel_rfl) (v' := undef) (by rw [hb1931]; kernel_rfl); clear hF2137
        have hF2139 := hF2138.setc (d := 136) (c := [4]) (v := .int .i64 ((boundsS u0).1)) (by kernel_rfl) (v' := undef) (by rw [hb1931]; kernel_rfl); clear hF2138
        have hF2140 := hF2139.setc (d := 137) (c := [4]) (v := .int .i64 (w64 (x11.tdiv r216))) (by kernel_rfl) (v' := undef) (by rw [hb1931]; kernel_rfl); clear hF2139
        refine sk hF2140 (b := false) rfl rfl (by kernel_rfl) (by kernel_rfl) rfl rfl (by kernel_rfl) ?_; intro a2141 hF2142; clear hF2140
        refine sk hF2142 (b := false) rfl rfl (by kernel_rfl) (by kernel_rfl) rfl rfl (by kernel_rfl) ?_; intro a2143 hF2144; clear hF2142
        refine st hF2144 (.bool false) (by rw [wanted_of hF2144 (b := false) rfl rfl (by kernel_rfl) (by kernel_rfl)]; rfl) rfl (by kernel_rfl) (p0 hF2144 (by kernel_rfl)) ?_; intro a2145 hF2146; clear hF2144
        refine s1 hF2146 141 (.bool false) ?_; intro a2147 hF2148; clear hF2146
        refine s1 hF2148 142 (.bool false) ?_; intro a2149 hF2150; clear hF2148
        refine st hF2150 (.int .i64 (w64 ((w64 ((w64 (u1 - (w64 (u0.Add * u2)))).tdiv r171)).tdiv r261))) (by rw [wanted_of hF2150 (b := false) rfl rfl (by kernel_rfl) (by kernel_rfl)]; rfl) rfl (by kernel_rfl) (p0 hF2150 (by kernel_rfl)) ?_; intro a2151 hF2152; clear hF2150
        refine st hF2152 (.bool (decide ((w64 ((w64 ((w64 (u1 - (w64 (u0.Add * u2)))).tdiv r171)).tdiv r261)) < 0))) (by rw [wanted_of hF2152 (b := false) rfl rfl (by kernel_rfl) (by kernel_rfl)]; rfl) rfl (by kernel_rfl) (p0 hF2152 (by kernel_rfl)) ?_; intro a2153 hF2154; clear hF2152
        refine st hF2154 (.bool (decide ((w64 ((w64 ((w64 (u1 - (w64 (u0.Add * u2)))).tdiv r171)).tdiv r261)) < 0))) (by rw [wanted_of hF2154 (b := false) rfl rfl (by kernel_rfl) (by kernel_rfl)]; rfl) rfl (by kernel_rfl) (p0 hF2154 (by kernel_rfl)) ?_; intro a2155 hF2156; clear hF2154
        refine gp hF2156 146 2 [] (decide ((w64 ((w64 ((w64 (u1 - (w64 (u0.Add * u2)))).tdiv r171)).tdiv r261)) < 0)) (.int .i64 (w64 (x11.tdiv r216))) rfl rfl ?_; intro a2157 hF2158; clear hF2156
        refine gp hF2158 147 2 [] (decide ((w64 ((w64 ((w64 (u1 - (w64 (u0.Add * u2)))).tdiv r171)).tdiv r261)) < 0)) (.bool (decide ((w64 (x11.tdiv r216)) < 0))) rfl rfl ?_; intro a2159 hF2160; clear hF2158
        refine st hF2160 (.bool ((decide ((w64 ((w64 ((w64 (u1 - (w64 (u0.Add * u2)))).tdiv r171)).tdiv r261)) < 0)) && (decide ((w64 (x11.tdiv r216)) < 0)))) (by rw [wanted_of hF2160 (b := false) rfl rfl (by kernel_rfl) (by kernel_rfl)]; rfl) rfl (by kernel_rfl) (pk_and hF2160 (g := []) (m := 2) (b := decide ((w64 ((w64 ((w64 (u1 - (w64 (u0.Add * u2)))).tdiv r171)).tdiv r261)) < 0)) (v := decide ((w64 (x11.tdiv r216)) < 0)) rfl (by kernel_rfl) (by kernel_rfl) (by kernel_rfl) rfl) ?_; intro a2161 hF2162; clear hF2160
        refine st hF2162 (.bool ((decide ((w64 ((w64 ((w64 (u1 - (w64 (u0.Add * u2)))).tdiv r171)).tdiv r261)) < 0)) && (decide ((w64 (x11.tdiv r216)) < 0)))) (by rw [wanted_of hF2162 (b := false) rfl rfl (by kernel_rfl) (by kernel_rfl)]; rfl) rfl (by kernel_rfl) (p0 hF2162 (by kernel_rfl)) ?_; intro a2163 hF2164; clear hF2162
        have hF2165 := hF2164.atom (((decide ((w64 ((w64 ((w64 (u1 - (w64 (u0.Add * u2)))).tdiv r171)).tdiv r261)) < 0)) && (decide ((w64 (x11.tdiv r216)) < 0))) == true) (by kernel_rfl); clear hF2164
        refine gp hF2165 150 5 [] ((decide ((w64 ((w64 ((w64 (u1 - (w64 (u0.Add * u2)))).tdiv r171)).tdiv r261)) < 0)) && (decide ((w64 (x11.tdiv r216)) < 0))) (.int .i64 (w64 ((w64 ((w64 (u1 - (w64 (u0.Add * u2)))).tdiv r171)).tdiv r261))) rfl rfl ?_; intro a2166 hF2167; clear hF2165
        refine gp hF2167 151 5 [] ((decide ((w64 ((w64 ((w64 (u1 - (w64 (u0.Add * u2)))).tdiv r171)).tdiv r261)) < 0)) && (decide ((w64 (x11.tdiv r216)) < 0))) (.int .i64 ((boundsS u0).2)) rfl rfl ?_; intro a2168 hF2169; clear hF2167
        refine gp hF2169 152 5 [] ((decide ((w64 ((w64 ((w64 (u1 - (w64 (u0.Add * u2)))).tdiv r171)).tdiv r261)) < 0)) && (decide ((w64 (x11.tdiv r216)) < 0))) (.int .i64 (w64 (x11.tdiv r216))) rfl rfl ?_; intro a2170 hF2171; clear hF2169
        rcases Bool.eq_false_or_eq_true ((decide ((w64 ((w64 ((w64 (u1 - (w64 (u0.Add * u2)))).tdiv r171)).tdiv r261)) < 0)) && (decide ((w64 (x11.tdiv r216)) < 0))) with hb2172 | hb2172
        ·
         have hp2173 := hp2136.1 hb2172; clear hp2136
         have hF2174 := hF2171.reval (d := 149) (c := []) (v := .bool ((decide ((w64 ((w64 ((w64 (u1 - (w64 (u0.Add * u2)))).tdiv r171)).tdiv r261)) < 0)) && (decide ((w64 (x11.tdiv r216)) < 0)))) (by kernel_rfl) (.bool true) (by rw [hb2172]); clear hF2171
         have hF2175 := hF2174.setc (d := 150) (c := [5]) (v := .int .i64 (w64 ((w64 ((w64 (u1 - (w64 (u0.Add * u2)))).tdiv r171)).tdiv r261))) (by kernel_rfl) (v' := .int .i64 (w64 ((w64 ((w64 (u1 - (w64 (u0.Add * u2)))).tdiv r171)).tdiv r261))) (by rw [hb2172]; kernel_rfl); clear hF2174
         have hF2176 := hF2175.setc (d := 151) (c := [5]) (v := .int .i64 ((boundsS u0).2)) (by kernel_rfl) (v' := .int .i64 ((boundsS u0).2)) (by rw [hb2172]; kernel_rfl); clear hF2175
         have hF2177 := hF2176.setc (d := 152) (c := [5]) (v := .int .i64 (w64 (x11.tdiv r216))) (by kernel_rfl) (v' := .int .i64 (w64 (x11.tdiv r216))) (by rw [hb2172]; kernel_rfl); clear hF2176
         have hc2178 := hp2173.1; have hp2179 := hp2173.2; clear hp2173
         refine st hF2177 (.int .i64 (w64 (((boundsS u0).2).tdiv (w64 (x11.tdiv r216))))) (by rw [wanted_of hF2177 (b := true) rfl rfl (by kernel_rfl) (by kernel_rfl)]; rfl) rfl (by kernel_rfl) (quo_run hF2177 (g := []) rfl (by kernel_rfl) (by kernel_rfl) hc2178 rfl) ?_; intro a2180 hF2181; clear hF2177
         refine st hF2181 (.bool (decide ((w64 ((w64 ((w64 (u1 - (w64 (u0.Add * u2)))).tdiv r171)).tdiv r261)) < (w64 (((boundsS u0).2).tdiv (w64 (x11.tdiv r216))))))) (by rw [wanted_of hF2181 (b := true) rfl rfl (by kernel_rfl) (by kernel_rfl)]; rfl) rfl (by kernel_rfl) (p0 hF2181 (by kernel_rfl)) ?_; intro a2182 hF2183; clear hF2181
         refine st hF2183 (.bool (decide ((w64 ((w64 ((w64 (u1 - (w64 (u0.Add * u2)))).tdiv r171)).tdiv r261)) < (w64 (((boundsS u0).2).tdiv (w64 (x11.tdiv r216))))))) (by rw [wanted_of hF2183 (b := false) rfl rfl (by kernel_rfl) (by kernel_rfl)]; rfl) rfl (by kernel_rfl) (p0 hF2183 (by kernel_rfl)) ?_; intro a2184 hF2185; clear hF2183
         refine s1 hF2185 156 (.bool (decide ((w64 ((w64 ((w64 (u1 - (w64 (u0.Add * u2)))).tdiv r171)).tdiv r261)) < (w64 (((boundsS u0).2).tdiv (w64 (x11.tdiv r216))))))) ?_; intro a2186 hF2187; clear hF2185
         refine nlH (hQ344 _ _ ?_); clear hQ344 hQ344Q
         refine cd hF2187 (t := decide ((w64 ((w64 ((w64 (u1 - (w64 (u0.Add * u2)))).tdiv r171)).tdiv r261)) < (w64 (((boundsS u0).2).tdiv (w64 (x11.tdiv r216)))))) (by kernel_rfl) (fun hb2188 => ?_) (fun hb2188 => ?_)
         ·
          have hp2189 := hp2179.1 hb2188; clear hp2179
          have hF2190 : Fr 171 [] [] a2186 := hF2187.reg; clear hF2187
          refine sqH ?_; intro hQ2191Q hQ2191
          refine s1 hF2190 6 (.int .i64 0) ?_; intro a2192 hF2193; clear hF2190
          refine s1 hF2193 7 (.int .i64 3) ?_; intro a2194 hF2195; clear hF2193
          refine nlH (hQ2191 _ _ ?_); clear hQ2191 hQ2191Q
          refine wp_ret ?_
          refine thr ?_
          refine rt (fn := Tryd.f13) (v := .tuple #[.int .i64 0, .int .i64 3]) hF2195 (re2 hF2195 (fn := Tryd.f13) rfl (by kernel_rfl) (by kernel_rfl)) ?_
          exact ⟨(0, 3), rfl, hp2189, hM333.below⟩
         ·
          have hp2196 := hp2179.2 hb2188; clear hp2179
          refine wp_skip ?_
          refine thn ?_
          refine wp_seq ?_
          have hF2197 : Fr 171 [] [⟨9, [], .int .i64 (w64 ((w64 ((w64 (u1 - (w64 (u0.Add * u2)))).tdiv r171)).tdiv r261))⟩, ⟨11, [], .int .i64 (w64 (x11.tdiv r216))⟩, ⟨14, [], .int .i64 ((boundsS u0).1)⟩, ⟨15, [], .int .i64 ((boundsS u0).2)⟩] a2186 := hF2187.reg; clear hF2187
          refine sqH ?_; intro hQ2198Q hQ2198
          refine s1 hF2197 157 (.int .i64 (w64 ((w64 ((w64 (u1 - (w64 (u0.Add * u2)))).tdiv r171)).tdiv r261))) ?_; intro a2199 hF2200; clear hF2197
          refine s1 hF2200 158 (.int .i64 (w64 (x11.tdiv r216))) ?_; intro a2201 hF2202; clear hF2200
          refine s1 hF2202 159 (.int .i64 (w64 ((w64 ((w64 ((w64 (u1 - (w64 (u0.Add * u2)))).tdiv r171)).tdiv r261)) * (w64 (x11.tdiv r216))))) ?_; intro a2203 hF2204; clear hF2202
          refine s1 hF2204 16 (.int .i64 (w64 ((w64 ((w64 ((w64 (u1 - (w64 (u0.Add * u2)))).tdiv r171)).tdiv r261)) * (w64 (x11.tdiv r216))))) ?_; intro a2205 hF2206; clear hF2204
          refine nlH (hQ2198 _ _ ?_); clear hQ2198 hQ2198Q
          refine sqH ?_; intro hQ2207Q hQ2207
          refine s1 hF2206 160 (.int .i64 (w64 ((w64 ((w64 ((w64 (u1 - (w64 (u0.Add * u2)))).tdiv r171)).tdiv r261)) * (w64 (x11.tdiv r216))))) ?_; intro a2208 hF2209; clear hF2206
          refine s1 hF2209 161 (.int .i64 ((boundsS u0).1)) ?_; intro a2210 hF2211; clear hF2209
          refine s1 hF2211 162 (.bool (decide ((w64 ((w64 ((w64 ((w64 (u1 - (w64 (u0.Add * u2)))).tdiv r171)).tdiv r261)) * (w64 (x11.tdiv r216)))) < ((boundsS u0).1)))) ?_; intro a2212 hF2213; clear hF2211
          refine s1 hF2213 163 (.bool (decide ((w64 ((w64 ((w64 ((w64 (u1 - (w64 (u0.Add * u2)))).tdiv r171)).tdiv r261)) * (w64 (x11.tdiv r216)))) < ((boundsS u0).1)))) ?_; intro a2214 hF2215; clear hF2213
          have hF2216 := hF2215.atom ((decide ((w64 ((w64 ((w64 ((w64 (u1 - (w64 (u0.Add * u2)))).tdiv r171)).tdiv r261)) * (w64 (x11.tdiv r216)))) < ((boundsS u0).1))) == false) (by kernel_rfl); clear hF2215
          refine gp hF2216 164 0 [] (decide ((w64 ((w64 ((w64 ((w64 (u1 - (w64 (u0.Add * u2)))).tdiv r171)).tdiv r261)) * (w64 (x11.tdiv r216)))) < ((boundsS u0).1))) (.int .i64 (w64 ((w64 ((w64 ((w64 (u1 - (w64 (u0.Add * u2)))).tdiv r171)).tdiv r261)) * (w64 (x11.tdiv r216))))) rfl rfl ?_; intro a2217 hF2218; clear hF2216
          refine gp hF2218 165 0 [] (decide ((w64 ((w64 ((w64 ((w64 (u1 - (w64 (u0.Add * u2)))).tdiv r171)).tdiv r261)) * (w64 (x11.tdiv r216)))) < ((boundsS u0).1))) (.int .i64 ((boundsS u0).2)) rfl rfl ?_; intro a2219 hF2220; clear hF2218
          refine gp hF2220 166 0 [] (decide ((w64 ((w64 ((w64 ((w64 (u1 - (w64 (u0.Add * u2)))).tdiv r171)).tdiv r261)) * (w64 (x11.tdiv r216)))) < ((boundsS u0).1))) (.bool (decide ((w64 ((w64 ((w64 ((w64 (u1 - (w64 (u0.Add * u2)))).tdiv r171)).tdiv r261)) * (w64 (x11.tdiv r216)))) > ((boundsS u0).2)))) rfl rfl ?_; intro a2221 hF2222; clear hF2220
          refine st hF2222 (.bool ((decide ((w64 ((w64 ((w64 ((w64 (u1 - (w64 (u0.Add * u2)))).tdiv r171)).tdiv r261)) * (w64 (x11.tdiv r216)))) < ((boundsS u0).1))) || (decide ((w64 ((w64 ((w64 ((w64 (u1 - (w64 (u0.Add * u2)))).tdiv r171)).tdiv r261)) * (w64 (x11.tdiv r216)))) > ((boundsS u0).2))))) (nog rfl _) rfl (by kernel_rfl) (pk_or hF2222 (g := []) (m := 0) (b := decide ((w64 ((w64 ((w64 ((w64 (u1 - (w64 (u0.Add * u2)))).tdiv r171)).tdiv r261)) * (w64 (x11.tdiv r216)))) < ((boundsS u0).1))) (v := decide ((w64 ((w64 ((w64 ((w64 (u1 - (w64 (u0.Add * u2)))).tdiv r171)).tdiv r261)) * (w64 (x11.tdiv r216)))) > ((boundsS u0).2))) rfl (by kernel_rfl) (by kernel_rfl) (by kernel_rfl) rfl) ?_; intro a2223 hF2224; clear hF2222
          refine nlH (hQ2207 _ _ ?_); clear hQ2207 hQ2207Q
          refine cd hF2224 (t := (decide ((w64 ((w64 ((w64 ((w64 (u1 - (w64 (u0.Add * u2)))).tdiv r171)).tdiv r261)) * (w64 (x11.tdiv r216)))) < ((boundsS u0).1))) || (decide ((w64 ((w64 ((w64 ((w64 (u1 - (w64 (u0.Add * u2)))).tdiv r171)).tdiv r261)) * (w64 (x11.tdiv r216)))) > ((boundsS u0).2)))) (by kernel_rfl) (fun hb2225 => ?_) (fun hb2225 => ?_)
          ·
           have hp2226 := hp2196.1 hb2225; clear hp2196
           have hF2227 : Fr 171 [] [] a2223 := hF2224.reg; clear hF2224
           refine sqH ?_; intro hQ2228Q hQ2228
           refine s1 hF2227 6 (.int .i64 0) ?_; intro a2229 hF2230; clear hF2227
           refine s1 hF2230 7 (.int .i64 3) ?_; intro a2231 hF2232; clear hF2230
           refine nlH (hQ2228 _ _ ?_); clear hQ2228 hQ2228Q
           refine wp_ret ?_
           refine thr ?_
           refine rt (fn := Tryd.f13) (v := .tuple #[.int .i64 0, .int .i64 3]) hF2232 (re2 hF2232 (fn := Tryd.f13) rfl (by kernel_rfl) (by kernel_rfl)) ?_
           exact ⟨(0, 3), rfl, hp2226, hM333.below⟩
          ·
           have hp2233 := hp2196.2 hb2225; clear hp2196
           refine wp_skip ?_
           refine thn ?_
           have hF2234 : Fr 171 [] [⟨9, [], .int .i64 (w64 ((w64 ((w64 (u1 - (w64 (u0.Add * u2)))).tdiv r171)).tdiv r261))⟩, ⟨11, [], .int .i64 (w64 (x11.tdiv r216))⟩] a2223 := hF2224.reg; clear hF2224
           refine sqH ?_; intro hQ2235Q hQ2235
           refine s1 hF2234 168 (.int .i64 (w64 ((w64 ((w64 (u1 - (w64 (u0.Add * u2)))).tdiv r171)).tdiv r261))) ?_; intro a2236 hF2237; clear hF2234
           refine s1 hF2237 169 (.int .i64 (w64 (x11.tdiv r216))) ?_; intro a2238 hF2239; clear hF2237
           refine s1 hF2239 170 (.int .i64 (w64 ((w64 ((w64 ((w64 (u1 - (w64 (u0.Add * u2)))).tdiv r171)).tdiv r261)) * (w64 (x11.tdiv r216))))) ?_; intro a2240 hF2241; clear hF2239
           refine s1 hF2241 6 (.int .i64 (w64 ((w64 ((w64 ((w64 (u1 - (w64 (u0.Add * u2)))).tdiv r171)).tdiv r261)) * (w64 (x11.tdiv r216))))) ?_; intro a2242 hF2243; clear hF2241
           refine s1 hF2243 7 (.int .i64 0) ?_; intro a2244 hF2245; clear hF2243
           refine nlH (hQ2235 _ _ ?_); clear hQ2235 hQ2235Q
           refine wp_ret ?_
           refine rt (fn := Tryd.f13) (v := .tuple #[.int .i64 (w64 ((w64 ((w64 ((w64 (u1 - (w64 (u0.Add * u2)))).tdiv r171)).tdiv r261)) * (w64 (x11.tdiv r216)))), .int .i64 0]) hF2245 (re2 hF2245 (fn := Tryd.f13) rfl (by kernel_rfl) (by kernel_rfl)) ?_
           exact ⟨(w64 ((w64 ((w64 ((w64 (u1 - (w64 (u0.Add * u2)))).tdiv r171)).tdiv r261)) * (w64 (x11.tdiv r216))), 0), rfl, hp2233, hM333.below⟩
        ·
         have hp2246 := hp2136.2 hb2172; clear hp2136
         have hF2247 := hF2171.reval (d := 149) (c := []) (v := .bool ((decide ((w64 ((w64 ((w64 (u1 - (w64 (u0.Add * u2)))).tdiv r171)).tdiv r261)) < 0)) && (decide ((w64 (x11.tdiv r216)) < 0)))) (by kernel_rfl) (.bool false) (by rw [hb2172]); clear hF2171
         have hF2248 := hF2247.setc (d := 150) (c := [5]) (v := .int .i64 (w64 ((w64 ((w64 (u1 - (w64 (u0.Add * u2)))).tdiv r171)).tdiv r261))) (by kernel_rfl) (v' := undef) (by rw [hb2172]; kernel_rfl); clear hF2247
         have hF2249 := hF2248.setc (d := 151) (c := [5]) (v := .int .i64 ((boundsS u0).2)) (by kernel_rfl) (v' := undef) (by rw [hb2172]; kernel_rfl); clear hF2248
         have hF2250 := hF2249.setc (d := 152) (c := [5]) (v := .int .i64 (w64 (x11.tdiv r216))) (by kernel_rfl) (v' := undef) (by rw [hb2172]; kernel_rfl); clear hF2249
         refine sk hF2250 (b := false) rfl rfl (by kernel_rfl) (by kernel_rfl) rfl rfl (by kernel_rfl) ?_; intro a2251 hF2252; clear hF2250
         refine sk hF2252 (b := false) rfl rfl (by kernel_rfl) (by kernel_rfl) rfl rfl (by kernel_rfl) ?_; intro a2253 hF2254; clear hF2252
         refine st hF2254 (.bool false) (by rw [wanted_of hF2254 (b := false) rfl rfl (by kernel_rfl) (by kernel_rfl)]; rfl) rfl (by kernel_rfl) (p0 hF2254 (by kernel_rfl)) ?_; intro a2255 hF2256; clear hF2254
         refine s1 hF2256 156 (.bool false) ?_; intro a2257 hF2258; clear hF2256
         refine nlH (hQ344 _ _ ?_); clear hQ344 hQ344Q
         refine cdF hF2258 (by kernel_rfl) ?_
         refine wp_skip ?_
         refine thn ?_
         refine wp_seq ?_
         have hF2259 : Fr 171 [] [⟨9, [], .int .i64 (w64 ((w64 ((w64 (u1 - (w64 (u0.Add * u2)))).tdiv r171)).tdiv r261))⟩, ⟨11, [], .int .i64 (w64 (x11.tdiv r216))⟩, ⟨14, [], .int .i64 ((boundsS u0).1)⟩, ⟨15, [], .int .i64 ((boundsS u0).2)⟩] a2257 := hF2258.reg; clear hF2258
         refine sqH ?_; intro hQ2260Q hQ2260
         refine s1 hF2259 157 (.int .i64 (w64 ((w64 ((w64 (u1 - (w64 (u0.Add * u2)))).tdiv r171)).tdiv r261))) ?_; intro a2261 hF2262; clear hF2259
         refine s1 hF2262 158 (.int .i64 (w64 (x11.tdiv r216))) ?_; intro a2263 hF2264; clear hF2262
         refine s1 hF2264 159 (.int .i64 (w64 ((w64 ((w64 ((w64 (u1 - (w64 (u0.Add * u2)))).tdiv r171)).tdiv r261)) * (w64 (x11.tdiv r216))))) ?_; intro a2265 hF2266; clear hF2264
         refine s1 hF2266 16 (.int .i64 (w64 ((w64 ((w64 ((w64 (u1 - (w64 (u0.Add * u2)))).tdiv r171)).tdiv r261)) * (w64 (x11.tdiv r216))))) ?_; intro a2267 hF2268; clear hF2266
         refine nlH (hQ2260 _ _ ?_); clear hQ2260 hQ2260Q
         refine sqH ?_; intro hQ2269Q hQ2269
         refine s1 hF2268 160 (.int .i64 (w64 ((w64 ((w64 ((w64 (u1 - (w64 (u0.Add * u2)))).tdiv r171)).tdiv r261)) * (w64 (x11.tdiv r216))))) ?_; intro a2270 hF2271; clear hF2268
         refine s1 hF2271 161 (.int .i64 ((boundsS u0).1)) ?_; intro a2272 hF2273; clear hF2271
         refine s1 hF2273 162 (.bool (decide ((w64 ((w64 ((w64 ((w64 (u1 - (w64 (u0.Add * u2)))).tdiv r171)).tdiv r261)) * (w64 (x11.tdiv r216)))) < ((boundsS u0).1)))) ?_; intro a2274 hF2275; clear hF2273
         refine s1 hF2275 163 (.bool (decide ((w64 ((w64 ((w64 ((w64 (u1 - (w64 (u0.Add * u2)))).tdiv r171)).tdiv r261)) * (w64 (x11.tdiv r216)))) < ((boundsS u0).1)))) ?_; intro a2276 hF2277; clear hF2275
         have hF2278 := hF2277.atom ((decide ((w64 ((w64 ((w64 ((w64 (u1 - (w64 (u0.Add * u2)))).tdiv r171)).tdiv r261)) * (w64 (x11.tdiv r216)))) < ((boundsS u0).1))) == false) (by kernel_rfl); clear hF2277
         refine gp hF2278 164 0 [] (decide ((w64 ((w64 ((w64 ((w64 (u1 - (w64 (u0.Add * u2)))).tdiv r171)).tdiv r261)) * (w64 (x11.tdiv r216)))) < ((boundsS u0).1))) (.int .i64 (w64 ((w64 ((w64 ((w64 (u1 - (w64 (u0.Add * u2)))).tdiv r171)).tdiv r261)) * (w64 (x11.tdiv r216))))) rfl rfl ?_; intro a2279 hF2280; clear hF2278
         refine gp hF2280 165 0 [] (decide ((w64 ((w64 ((w64 ((w64 (u1 - (w64 (u0.Add * u2)))).tdiv r171)).tdiv r261)) * (w64 (x11.tdiv r216)))) < ((boundsS u0).1))) (.int .i64 ((boundsS u0).2)) rfl rfl ?_; intro a2281 hF2282; clear hF2280
         refine gp hF2282 166 0 [] (decide ((w64 ((w64 ((w64 ((w64 (u1 - (w64 (u0.Add * u2)))).tdiv r171)).tdiv r261)) * (w64 (x11.tdiv r216)))) < ((boundsS u0).1))) (.bool (decide ((w64 ((w64 ((w64 ((w64 (u1 - (w64 (u0.Add * u2)))).tdiv r171)).tdiv r261)) * (w64 (x11.tdiv r216)))) > ((boundsS u0).2)))) rfl rfl ?_; intro a2283 hF2284; clear hF2282
         refine st hF2284 (.bool ((decide ((w64 ((w64 ((w64 ((w64 (u1 - (w64 (u0.Add * u2)))).tdiv r171)).tdiv r261)) * (w64 (x11.tdiv r216)))) < ((boundsS u0).1))) || (decide ((w64 ((w64 ((w64 ((w64 (u1 - (w64 (u0.Add * u2)))).tdiv r171)).tdiv r261)) * (w64 (x11.tdiv r216)))) > ((boundsS u0).2))))) (nog rfl _) rfl (by kernel_rfl) (pk_or hF2284 (g := []) (m := 0) (b := decide ((w64 ((w64 ((w64 ((w64 (u1 - (w64 (u0.Add * u2)))).tdiv r171)).tdiv r261)) * (w64 (x11.tdiv r216)))) < ((boundsS u0).1))) (v := decide ((w64 ((w64 ((w64 ((w64 (u1 - (w64 (u0.Add * u2)))).tdiv r171)).tdiv r261)) * (w64 (x11.tdiv r216)))) > ((boundsS u0).2))) rfl (by kernel_rfl) (by kernel_rfl) (by kernel_rfl) rfl) ?_; intro a2285 hF2286; clear hF2284
         refine nlH (hQ2269 _ _ ?_); clear hQ2269 hQ2269Q
         refine cd hF2286 (t := (decide ((w64 ((w64 ((w64 ((w64 (u1 - (w64 (u0.Add * u2)))).tdiv r171)).tdiv r261)) * (w64 (x11.tdiv r216)))) < ((boundsS u0).1))) || (decide ((w64 ((w64 ((w64 ((w64 (u1 - (w64 (u0.Add * u2)))).tdiv r171)).tdiv r261)) * (w64 (x11.tdiv r216)))) > ((boundsS u0).2)))) (by kernel_rfl) (fun hb2287 => ?_) (fun hb2287 => ?_)
         ·
          have hp2288 := hp2246.1 hb2287; clear hp2246
          have hF2289 : Fr 171 [] [] a2285 := hF2286.reg; clear hF2286
          refine sqH ?_; intro hQ2290Q hQ2290
          refine s1 hF2289 6 (.int .i64 0) ?_; intro a2291 hF2292; clear hF2289
          refine s1 hF2292 7 (.int .i64 3) ?_; intro a2293 hF2294; clear hF2292
          refine nlH (hQ2290 _ _ ?_); clear hQ2290 hQ2290Q
          refine wp_ret ?_
          refine thr ?_
          refine rt (fn := Tryd.f13) (v := .tuple #[.int .i64 0, .int .i64 3]) hF2294 (re2 hF2294 (fn := Tryd.f13) rfl (by kernel_rfl) (by kernel_rfl)) ?_
          exact ⟨(0, 3), rfl, hp2288, hM333.below⟩
         ·
          have hp2295 := hp2246.2 hb2287; clear hp2246
          refine wp_skip ?_
          refine thn ?_
          have hF2296 : Fr 171 [] [⟨9, [], .int .i64 (w64 ((w64 ((w64 (u1 - (w64 (u0.Add * u2)))).tdiv r171)).tdiv r261))⟩, ⟨11, [], .int .i64 (w64 (x11.tdiv r216))⟩] a2285 := hF2286.reg; clear hF2286
          refine sqH ?_; intro hQ2297Q hQ2297
          refine s1 hF2296 168 (.int .i64 (w64 ((w64 ((w64 (u1 - (w64 (u0.Add * u2)))).tdiv r171)).tdiv r261))) ?_; intro a2298 hF2299; clear hF2296
          refine s1 hF2299 169 (.int .i64 (w64 (x11.tdiv r216))) ?_; intro a2300 hF2301; clear hF2299
          refine s1 hF2301 170 (.int .i64 (w64 ((w64 ((w64 ((w64 (u1 - (w64 (u0.Add * u2)))).tdiv r171)).tdiv r261)) * (w64 (x11.tdiv r216))))) ?_; intro a2302 hF2303; clear hF2301
          refine s1 hF2303 6 (.int .i64 (w64 ((w64 ((w64 ((w64 (u1 - (w64 (u0.Add * u2)))).tdiv r171)).tdiv r261)) * (w64 (x11.tdiv r216))))) ?_; intro a2304 hF2305; clear hF2303
          refine s1 hF2305 7 (.int .i64 0) ?_; intro a2306 hF2307; clear hF2305
          refine nlH (hQ2297 _ _ ?_); clear hQ2297 hQ2297Q
          refine wp_ret ?_
          refine rt (fn := Tryd.f13) (v := .tuple #[.int .i64 (w64 ((w64 ((w64 ((w64 (u1 - (w64 (u0.Add * u2)))).tdiv r171)).tdiv r261)) * (w64 (x11.tdiv r216)))), .int .i64 0]) hF2307 (re2 hF2307 (fn := Tryd.f13) rfl (by kernel_rfl) (by kernel_rfl)) ?_
          exact ⟨(w64 ((w64 ((w64 ((w64 (u1 - (w64 (u0.Add * u2)))).tdiv r171)).tdiv r261)) * (w64 (x11.tdiv r216))), 0), rfl, hp2295, hM333.below⟩
   refine cd hF154 (t := decide ((w64 (u0.Mul.tdiv r101)) < 0)) (by kernel_rfl) (fun hb2308 => ?_) (fun hb2308 => ?_)
   ·
    have hp2309 := hp155.1 hb2308; clear hp155
    refine rgH ?_; intro hQ2310Q hQ2310
    refine s1 hF154 57 (.int .i64 (w64 (u0.Div.tdiv r101))) ?_; intro a2311 hF2312; clear hF154
    refine s1 hF2312 58 (.int .i64 (w64 (0 - (w64 (u0.Div.tdiv r101))))) ?_; intro a2313 hF2314; clear hF2312
    refine s1 hF2314 59 (.int .i64 (w64 (u0.Mul.tdiv r101))) ?_; intro a2315 hF2316; clear hF2314
    refine s1 hF2316 60 (.int .i64 (w64 (0 - (w64 (u0.Mul.tdiv r101))))) ?_; intro a2317 hF2318; clear hF2316
    refine s1 hF2318 11 (.int .i64 (w64 (0 - (w64 (u0.Div.tdiv r101))))) ?_; intro a2319 hF2320; clear hF2318
    refine s1 hF2320 12 (.int .i64 (w64 (0 - (w64 (u0.Mul.tdiv r101))))) ?_; intro a2321 hF2322; clear hF2320
    refine nlH (hQ2310 _ _ ?_); clear hQ2310 hQ2310Q
    refine rd ?_
    exact hJ159 (w64 (0 - (w64 (u0.Div.tdiv r101)))) (w64 (0 - (w64 (u0.Mul.tdiv r101)))) hp2309 _ _ ((hF2322.reg).anyβ _ (by kernel_rfl)) (hM146.keep (List.Sublist.cons_cons _ (List.Sublist.slnil)))
   ·
    have hp2323 := hp155.2 hb2308; clear hp155
    refine wp_skip ?_
    refine rd ?_
    exact hJ159 (w64 (u0.Div.tdiv r101)) (w64 (u0.Mul.tdiv r101)) hp2323 _ _ ((hF154.reg).anyβ _ (by kernel_rfl)) (hM146.keep (List.Sublist.cons_cons _ (List.Sublist.slnil)))

end Go.Proofs.YtdndfbamhnchfaaDoor
