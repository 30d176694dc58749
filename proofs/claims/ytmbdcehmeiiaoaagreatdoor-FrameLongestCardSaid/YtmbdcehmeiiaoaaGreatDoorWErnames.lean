/- The walks, made by program: each call does what its pure predicate says. -/
import Derived.Test.YtmbdcehmeiiaoaaGreatDoorWE
set_option linter.unusedVariables false
set_option linter.unusedSimpArgs false
namespace Go.Proofs.YtmbdcehmeiiaoaaGreatDoor
open Go.Sy Go.RowKit
set_option maxRecDepth 100000 in
set_option maxHeartbeats 0 in
theorem rnames_walk (u0 : FReader) (b1 : Nat) (ao2 : Option Addr) (cap3 : Nat) (B : Nat) (w0 : World) (Z0 : Fz) (Rr : List Res) (Z : Fz) (w : World) (hs4 : SlR (tyInt .u8) Z ao2 cap3 u0.f.Data) (hM0 : Mem B [] w0 Z0 ((.row b1 [str u0.Reader.Row, .int .i64 u0.Reader.At, .int .i64 u0.Reader.Code, .int .u8 u0.Reader.c.last, .int .i64 u0.Reader.c.n, .int .i64 u0.f.ID, .bool u0.f.Long, .bool u0.f.Fast, .bool u0.f.Remote, .int .i64 u0.f.Size, .slice ao2 u0.f.Data.length cap3] 61) :: Rr) Z w) (hZ : Z.on w) {K : FReader → Prop} (hp : rnames_vc u0 K) : Calls Tryz.prog 32 #[.pointer (some ⟨b1, 0, none⟩)] w fun e w' => ∃ (r : FReader) (ao1001 : Option Addr) (cap1002 : Nat) (Z' : Fz), e = .returned (.tuple #[]) ∧ K r ∧ Fz.le Z Z' ∧ SlR (tyInt .u8) Z' ao1001 cap1002 r.f.Data ∧ Mem B [] w0 Z0 ((.row b1 [str r.Reader.Row, .int .i64 r.Reader.At, .int .i64 r.Reader.Code, .int .u8 r.Reader.c.last, .int .i64 r.Reader.c.n, .int .i64 r.f.ID, .bool r.f.Long, .bool r.f.Fast, .bool r.f.Remote, .int .i64 r.f.Size, .slice ao1001 r.f.Data.length cap1002] 61) :: Rr) Z' w' := by
 refine enter0 Tryz.func32 rfl rfl (by kernel_rfl) ?_; intro a0 hF0; have hle0 := Fz.le.refl Z
 have hp5 := hp (hs4.small); clear hp
 refine sqH ?_; intro hQ6Q hQ6
 refine s1 hF0 3 (.pointer (some ⟨b1, 0, none⟩)) ?_; intro a7 hF8; clear hF0
 have hc9 := hp5.1; have hp10 := hp5.2; clear hp5
 refine cl hF8 66 #[.pointer (some ⟨b1, 0, none⟩), str ([48] : List UInt8)] (nog rfl _) rfl (by kernel_rfl) (by kernel_rfl) ?_
 obtain ⟨r15, hr16⟩ : ∃ x, (rwantS u0 ([48] : List UInt8)) = x := ⟨_, rfl⟩; have hp17 := hp10 r15 hr16; clear hp10
 have h9 := rwant_fun u0 ([48] : List UInt8) hc9 b1 ao2 cap3 _ _ _ _ _ _ hs4 hM0 hM0.fz; rw [hr16] at h9; refine h9.mono ?_; clear h9; rintro _ wd11 ⟨ao19, cap20, Z22, rfl, hle23, hs21, hm⟩; refine ⟨_, rfl, ?_⟩; intro a12 hF13; have hM14 := hm; clear hm hM0 hF8
 replace hs4 := hs4.mono hle23
 replace hle0 := Fz.le.trans hle0 hle23
 have hM24 : Mem B [] w0 Z0 ((.row b1 [str r15.Reader.Row, .int .i64 r15.Reader.At, .int .i64 r15.Reader.Code, .int .u8 r15.Reader.c.last, .int .i64 r15.Reader.c.n, .int .i64 r15.f.ID, .bool r15.f.Long, .bool r15.f.Fast, .bool r15.f.Remote, .int .i64 r15.f.Size, .slice ao19 r15.f.Data.length cap20] 61) :: Rr) Z22 wd11 := hM14; clear hM14
 have hp25 := hp17 (hs21.small); clear hp17
 refine nlH (hQ6 _ _ ?_); clear hQ6 hQ6Q
 refine sqH ?_; intro hQ26Q hQ26
 refine s1 hF13 5 (.pointer (some ⟨b1, 0, none⟩)) ?_; intro a27 hF28; clear hF13
 refine s1 hF28 6 (.pointer (some ⟨b1, 0, none⟩)) ?_; intro a29 hF30; clear hF28
 have hc31 := hp25.1; have hp32 := hp25.2; clear hp25
 refine cl hF30 33 #[.pointer (some ⟨b1, 0, none⟩), .int .i64 11] (nog rfl _) rfl (by kernel_rfl) (by kernel_rfl) ?_
 obtain ⟨r37, hr38⟩ : ∃ x, (rnumberS r15 11) = x := ⟨_, rfl⟩; have hp39 := hp32 r37 hr38; clear hp32
 have h9 := rnumber_fun r15 11 hc31 b1 ao19 cap20 _ _ _ _ _ _ hs21 hM24 hM24.fz; rw [hr38] at h9; refine h9.mono ?_; clear h9; rintro _ wd33 ⟨ao41, cap42, Z44, rfl, hle45, hs43, hm⟩; refine ⟨_, rfl, ?_⟩; intro a34 hF35; have hM36 := hm; clear hm hM24 hF30
 replace hs4 := hs4.mono hle45
 replace hs21 := hs21.mono hle45
 replace hle0 := Fz.le.trans hle0 hle45
 have hM46 : Mem B [] w0 Z0 ((.row b1 [str r37.2.Reader.Row, .int .i64 r37.2.Reader.At, .int .i64 r37.2.Reader.Code, .int .u8 r37.2.Reader.c.last, .int .i64 r37.2.Reader.c.n, .int .i64 r37.2.f.ID, .bool r37.2.f.Long, .bool r37.2.f.Fast, .bool r37.2.f.Remote, .int .i64 r37.2.f.Size, .slice ao41 r37.2.f.Data.length cap42] 61) :: Rr) Z44 wd33 := hM36; clear hM36
 have hp47 := hp39 (hs43.small); clear hp39
 refine s1 hF35 8 (.pointer (some ⟨b1, 0, none⟩)) ?_; intro a48 hF49; clear hF35
 refine s1 hF49 9 (.pointer (some ⟨b1, 5, none⟩)) ?_; intro a50 hF51; clear hF49
 refine s1 hF51 10 (.pointer (some ⟨b1, 5, none⟩)) ?_; intro a52 hF53; clear hF51
 refine sr hF53 hM46 0 [str r37.2.Reader.Row, .int .i64 r37.2.Reader.At, .int .i64 r37.2.Reader.Code, .int .u8 r37.2.Reader.c.last, .int .i64 r37.2.Reader.c.n, .int .i64 r37.1, .bool r37.2.f.Long, .bool r37.2.f.Fast, .bool r37.2.f.Remote, .int .i64 r37.2.f.Size, .slice ao41 r37.2.f.Data.length cap42] (b := b1) (off := 5) (cs := [str r37.2.Reader.Row, .int .i64 r37.2.Reader.At, .int .i64 r37.2.Reader.Code, .int .u8 r37.2.Reader.c.last, .int .i64 r37.2.Reader.c.n, .int .i64 r37.2.f.ID, .bool r37.2.f.Long, .bool r37.2.f.Fast, .bool r37.2.f.Remote, .int .i64 r37.2.f.Size, .slice ao41 r37.2.f.Data.length cap42]) (ty := 61) (u := .int .i64 r37.1) (nog rfl _) rfl rfl (by kernel_rfl) (by kernel_rfl) (by kernel_rfl) (by kernel_rfl) (by kernel_rfl) (by kernel_rfl) (by kernel_rfl) ?_; intro wd54 hM55; clear hM46
 have hM56 : Mem B [] w0 Z0 ((.row b1 [str r37.2.Reader.Row, .int .i64 r37.2.Reader.At, .int .i64 r37.2.Reader.Code, .int .u8 r37.2.Reader.c.last, .int .i64 r37.2.Reader.c.n, .int .i64 r37.1, .bool r37.2.f.Long, .bool r37.2.f.Fast, .bool r37.2.f.Remote, .int .i64 r37.2.f.Size, .slice ao41 r37.2.f.Data.length cap42] 61) :: Rr) Z44 wd54 := hM55; clear hM55
 refine nlH (hQ26 _ _ ?_); clear hQ26 hQ26Q
 refine sqH ?_; intro hQ57Q hQ57
 refine s1 hF53 11 (.pointer (some ⟨b1, 0, none⟩)) ?_; intro a58 hF59; clear hF53
 refine s1 hF59 12 (.pointer (some ⟨b1, 0, none⟩)) ?_; intro a60 hF61; clear hF59
 refine s1 hF61 13 (.pointer (some ⟨b1, 0, none⟩)) ?_; intro a62 hF63; clear hF61
 have hc64 := hp47.1; have hp65 := hp47.2; clear hp47
 refine cl hF63 36 #[.pointer (some ⟨b1, 0, none⟩), .int .i64 1] (nog rfl _) rfl (by kernel_rfl) (by kernel_rfl) ?_
 obtain ⟨r70, hr71⟩ : ∃ x, (rtakeFS (⟨r37.2.Reader, (⟨r37.1, r37.2.f.Long, r37.2.f.Fast, r37.2.f.Remote, r37.2.f.Size, r37.2.f.Data⟩ : Frame)⟩ : FReader) 1) = x := ⟨_, rfl⟩; have hp72 := hp65 r70 hr71; clear hp65
 have h9 := rtakeF_fun (⟨r37.2.Reader, (⟨r37.1, r37.2.f.Long, r37.2.f.Fast, r37.2.f.Remote, r37.2.f.Size, r37.2.f.Data⟩ : Frame)⟩ : FReader) 1 hc64 b1 ao41 cap42 _ _ _ _ _ _ hs43 hM56 hM56.fz; rw [hr71] at h9; refine h9.mono ?_; clear h9; rintro _ wd66 ⟨ao74, cap75, Z77, rfl, hle78, hs76, hm⟩; refine ⟨_, rfl, ?_⟩; intro a67 hF68; have hM69 := hm; clear hm hM56 hF63
 replace hs4 := hs4.mono hle78
 replace hs21 := hs21.mono hle78
 replace hs43 := hs43.mono hle78
 replace hle0 := Fz.le.trans hle0 hle78
 have hM79 : Mem B [] w0 Z0 ((.row b1 [str r70.2.Reader.Row, .int .i64 r70.2.Reader.At, .int .i64 r70.2.Reader.Code, .int .u8 r70.2.Reader.c.last, .int .i64 r70.2.Reader.c.n, .int .i64 r70.2.f.ID, .bool r70.2.f.Long, .bool r70.2.f.Fast, .bool r70.2.f.Remote, .int .i64 r70.2.f.Size, .slice ao74 r70.2.f.Data.length cap75] 61) :: Rr) Z77 wd66 := hM69; clear hM69
 have hp80 := hp72 (hs76.small); clear hp72
 refine st hF68 (.bool (r70.1 == ([49] : List UInt8))) (nog rfl _) rfl (by kernel_rfl) (strcmp_run hF68 (g := []) (op := .eql) rfl (by kernel_rfl) (by kernel_rfl) (by decide) rfl) ?_; intro a81 hF82; clear hF68
 refine s1 hF82 2 (.bool (r70.1 == ([49] : List UInt8))) ?_; intro a83 hF84; clear hF82
 refine nlH (hQ57 _ _ ?_); clear hQ57 hQ57Q
 have hF85 : Fr 97 [] [⟨0, [], .pointer (some ⟨b1, 0, none⟩)⟩, ⟨2, [], .bool (r70.1 == ([49] : List UInt8))⟩] a83 := hF84.reg; clear hF84
 refine sqH ?_; intro hQ86Q hQ86
 refine s1 hF85 16 (.pointer (some ⟨b1, 0, none⟩)) ?_; intro a87 hF88; clear hF85
 refine s1 hF88 17 (.pointer (some ⟨b1, 0, none⟩)) ?_; intro a89 hF90; clear hF88
 refine s1 hF90 18 (.pointer (some ⟨b1, 0, none⟩)) ?_; intro a91 hF92; clear hF90
 refine s1 hF92 19 (.pointer (some ⟨b1, 0, none⟩)) ?_; intro a93 hF94; clear hF92
 have hc95 := hp80.1; have hp96 := hp80.2; clear hp80
 refine cl hF94 36 #[.pointer (some ⟨b1, 0, none⟩), .int .i64 1] (nog rfl _) rfl (by kernel_rfl) (by kernel_rfl) ?_
 obtain ⟨r101, hr102⟩ : ∃ x, (rtakeFS r70.2 1) = x := ⟨_, rfl⟩; have hp103 := hp96 r101 hr102; clear hp96
 have h9 := rtakeF_fun r70.2 1 hc95 b1 ao74 cap75 _ _ _ _ _ _ hs76 hM79 hM79.fz; rw [hr102] at h9; refine h9.mono ?_; clear h9; rintro _ wd97 ⟨ao105, cap106, Z108, rfl, hle109, hs107, hm⟩; refine ⟨_, rfl, ?_⟩; intro a98 hF99; have hM100 := hm; clear hm hM79 hF94
 replace hs4 := hs4.mono hle109
 replace hs21 := hs21.mono hle109
 replace hs43 := hs43.mono hle109
 replace hs76 := hs76.mono hle109
 replace hle0 := Fz.le.trans hle0 hle109
 have hM110 : Mem B [] w0 Z0 ((.row b1 [str r101.2.Reader.Row, .int .i64 r101.2.Reader.At, .int .i64 r101.2.Reader.Code, .int .u8 r101.2.Reader.c.last, .int .i64 r101.2.Reader.c.n, .int .i64 r101.2.f.ID, .bool r101.2.f.Long, .bool r101.2.f.Fast, .bool r101.2.f.Remote, .int .i64 r101.2.f.Size, .slice ao105 r101.2.f.Data.length cap106] 61) :: Rr) Z108 wd97 := hM100; clear hM100
 have hp111 := hp103 (hs107.small); clear hp103
 refine st hF99 (.bool (r101.1 == ([49] : List UInt8))) (nog rfl _) rfl (by kernel_rfl) (strcmp_run hF99 (g := []) (op := .eql) rfl (by kernel_rfl) (by kernel_rfl) (by decide) rfl) ?_; intro a112 hF113; clear hF99
 refine s1 hF113 22 (.pointer (some ⟨b1, 0, none⟩)) ?_; intro a114 hF115; clear hF113
 refine s1 hF115 23 (.pointer (some ⟨b1, 5, none⟩)) ?_; intro a116 hF117; clear hF115
 refine s1 hF117 24 (.pointer (some ⟨b1, 6, none⟩)) ?_; intro a118 hF119; clear hF117
 refine sr hF119 hM110 0 [str r101.2.Reader.Row, .int .i64 r101.2.Reader.At, .int .i64 r101.2.Reader.Code, .int .u8 r101.2.Reader.c.last, .int .i64 r101.2.Reader.c.n, .int .i64 r101.2.f.ID, .bool (r101.1 == ([49] : List UInt8)), .bool r101.2.f.Fast, .bool r101.2.f.Remote, .int .i64 r101.2.f.Size, .slice ao105 r101.2.f.Data.length cap106] (b := b1) (off := 6) (cs := [str r101.2.Reader.Row, .int .i64 r101.2.Reader.At, .int .i64 r101.2.Reader.Code, .int .u8 r101.2.Reader.c.last, .int .i64 r101.2.Reader.c.n, .int .i64 r101.2.f.ID, .bool r101.2.f.Long, .bool r101.2.f.Fast, .bool r101.2.f.Remote, .int .i64 r101.2.f.Size, .slice ao105 r101.2.f.Data.length cap106]) (ty := 61) (u := .bool (r101.1 == ([49] : List UInt8))) (nog rfl _) rfl rfl (by kernel_rfl) (by kernel_rfl) (by kernel_rfl) (by kernel_rfl) (by kernel_rfl) (by kernel_rfl) (by kernel_rfl) ?_; intro wd120 hM121; clear hM110
 have hM122 : Mem B [] w0 Z0 ((.row b1 [str r101.2.Reader.Row, .int .i64 r101.2.Reader.At, .int .i64 r101.2.Reader.Code, .int .u8 r101.2.Reader.c.last, .int .i64 r101.2.Reader.c.n, .int .i64 r101.2.f.ID, .bool (r101.1 == ([49] : List UInt8)), .bool r101.2.f.Fast, .bool r101.2.f.Remote, .int .i64 r101.2.f.Size, .slice ao105 r101.2.f.Data.length cap106] 61) :: Rr) Z108 wd120 := hM121; clear hM121
 refine nlH (hQ86 _ _ ?_); clear hQ86 hQ86Q
 refine sqH ?_; intro hQ123Q hQ123
 refine s1 hF119 25 (.pointer (some ⟨b1, 0, none⟩)) ?_; intro a124 hF125; clear hF119
 refine s1 hF125 26 (.bool (r70.1 == ([49] : List UInt8))) ?_; intro a126 hF127; clear hF125
 refine s1 hF127 27 (.pointer (some ⟨b1, 0, none⟩)) ?_; intro a128 hF129; clear hF127
 refine s1 hF129 28 (.pointer (some ⟨b1, 5, none⟩)) ?_; intro a130 hF131; clear hF129
 refine s1 hF131 29 (.pointer (some ⟨b1, 8, none⟩)) ?_; intro a132 hF133; clear hF131
 refine sr hF133 hM122 0 [str r101.2.Reader.Row, .int .i64 r101.2.Reader.At, .int .i64 r101.2.Reader.Code, .int .u8 r101.2.Reader.c.last, .int .i64 r101.2.Reader.c.n, .int .i64 r101.2.f.ID, .bool (r101.1 == ([49] : List UInt8)), .bool r101.2.f.Fast, .bool (r70.1 == ([49] : List UInt8)), .int .i64 r101.2.f.Size, .slice ao105 r101.2.f.Data.length cap106] (b := b1) (off := 8) (cs := [str r101.2.Reader.Row, .int .i64 r101.2.Reader.At, .int .i64 r101.2.Reader.Code, .int .u8 r101.2.Reader.c.last, .int .i64 r101.2.Reader.c.n, .int .i64 r101.2.f.ID, .bool (r101.1 == ([49] : List UInt8)), .bool r101.2.f.Fast, .bool r101.2.f.Remote, .int .i64 r101.2.f.Size, .slice ao105 r101.2.f.Data.length cap106]) (ty := 61) (u := .bool (r70.1 == ([49] : List UInt8))) (nog rfl _) rfl rfl (by kernel_rfl) (by kernel_rfl) (by kernel_rfl) (by kernel_rfl) (by kernel_rfl) (by kernel_rfl) (by kernel_rfl) ?_; intro wd134 hM135; clear hM122
 have hM136 : Mem B [] w0 Z0 ((.row b1 [str r101.2.Reader.Row, .int .i64 r101.2.Reader.At, .int .i64 r101.2.Reader.Code, .int .u8 r101.2.Reader.c.last, .int .i64 r101.2.Reader.c.n, .int .i64 r101.2.f.ID, .bool (r101.1 == ([49] : List UInt8)), .bool r101.2.f.Fast, .bool (r70.1 == ([49] : List UInt8)), .int .i64 r101.2.f.Size, .slice ao105 r101.2.f.Data.length cap106] 61) :: Rr) Z108 wd134 := hM135; clear hM135
 refine nlH (hQ123 _ _ ?_); clear hQ123 hQ123Q
 refine wp_seq ?_
 have hF137 : Fr 97 [] [⟨0, [], .pointer (some ⟨b1, 0, none⟩)⟩, ⟨2, [], .bool (r70.1 == ([49] : List UInt8))⟩] a132 := hF133.reg; clear hF133
 refine sqH ?_; intro hQ138Q hQ138
 refine s1 hF137 30 (.pointer (some ⟨b1, 0, none⟩)) ?_; intro a139 hF140; clear hF137
 refine s1 hF140 31 (.pointer (some ⟨b1, 0, none⟩)) ?_; intro a141 hF142; clear hF140
 refine s1 hF142 32 (.pointer (some ⟨b1, 5, none⟩)) ?_; intro a143 hF144; clear hF142
 refine s1 hF144 33 (.pointer (some ⟨b1, 6, none⟩)) ?_; intro a145 hF146; clear hF144
 refine l1 hF146 hM136 34 0 6 (.bool (r101.1 == ([49] : List UInt8))) rfl rfl ?_; intro a147 hF148; clear hF146
 refine nlH (hQ138 _ _ ?_); clear hQ138 hQ138Q
 have hF149 : Fr 97 [] [⟨0, [], .pointer (some ⟨b1, 0, none⟩)⟩, ⟨2, [], .bool (r70.1 == ([49] : List UInt8))⟩, ⟨34, [], .bool (r101.1 == ([49] : List UInt8))⟩] a147 := hF148.reg; clear hF148
 have hF151 : Fr 97 [] [⟨0, [], .pointer (some ⟨b1, 0, none⟩)⟩, ⟨2, [], .bool (r70.1 == ([49] : List UInt8))⟩, ⟨34, [], .bool (r101.1 == ([49] : List UInt8))⟩] a147 := hF149.reg; clear hF149
 obtain ⟨inv150, hp152, hp153⟩ := hp111
 refine wp_then_k fun KJ154 hKJ155 => ?_
 have hJ156 : ∀ (yb1 : FReader) (aoyb1_0 : Option Addr) (capyb1_0 : Nat) (ZJ150 : Fz), inv150 yb1 ∧ SlR (tyInt .u8) ZJ150 aoyb1_0 capyb1_0 yb1.f.Data ∧ Fz.le Z108 ZJ150 → ∀ a1 w1, Fr 97 [] [⟨0, [], .pointer (some ⟨b1, 0, none⟩)⟩] a1 → Mem B [] w0 Z0 ((.row b1 [str yb1.Reader.Row, .int .i64 yb1.Reader.At, .int .i64 yb1.Reader.Code, .int .u8 yb1.Reader.c.last, .int .i64 yb1.Reader.c.n, .int .i64 yb1.f.ID, .bool yb1.f.Long, .bool yb1.f.Fast, .bool yb1.f.Remote, .int .i64 yb1.f.Size, .slice aoyb1_0 yb1.f.Data.length capyb1_0] 61) :: Rr) ZJ150 w1 → KJ154 a1 w1 := by
  rintro yb1 aoyb1_0 capyb1_0 ZJ150 ⟨hI161, hsyb1_0, hleJ150⟩ a157 wd158 hF159 hM160; clear hF151 hM136
  refine hKJ155 _ _ ?_; clear hKJ155
  have hp162 := hp153 yb1 hI161
  replace hle0 := Fz.le.trans hle0 hleJ150
  have hs163 := hs4.mono hleJ150
  have hs164 := hs21.mono hleJ150
  have hs165 := hs43.mono hleJ150
  have hs166 := hs76.mono hleJ150
  have hs167 := hs107.mono hleJ150
  refine sqH ?_; intro hQ168Q hQ168
  refine s1 hF159 61 (.pointer (some ⟨b1, 0, none⟩)) ?_; intro a169 hF170; clear hF159
  refine s1 hF170 62 (.pointer (some ⟨b1, 0, none⟩)) ?_; intro a171 hF172; clear hF170
  refine s1 hF172 63 (.pointer (some ⟨b1, 0, none⟩)) ?_; intro a173 hF174; clear hF172
  refine s1 hF174 64 (.pointer (some ⟨b1, 0, none⟩)) ?_; intro a175 hF176; clear hF174
  have hc177 := hp162.1; have hp178 := hp162.2; clear hp162
  refine cl hF176 36 #[.pointer (some ⟨b1, 0, none⟩), .int .i64 1] (nog rfl _) rfl (by kernel_rfl) (by kernel_rfl) ?_
  obtain ⟨r183, hr184⟩ : ∃ x, (rtakeFS yb1 1) = x := ⟨_, rfl⟩; have hp185 := hp178 r183 hr184; clear hp178
  have h9 := rtakeF_fun yb1 1 hc177 b1 aoyb1_0 capyb1_0 _ _ _ _ _ _ hsyb1_0 hM160 hM160.fz; rw [hr184] at h9; refine h9.mono ?_; clear h9; rintro _ wd179 ⟨ao187, cap188, Z190, rfl, hle191, hs189, hm⟩; refine ⟨_, rfl, ?_⟩; intro a180 hF181; have hM182 := hm; clear hm hM160 hF176
  replace hs163 := hs163.mono hle191
  replace hs164 := hs164.mono hle191
  replace hs165 := hs165.mono hle191
  replace hs166 := hs166.mono hle191
  replace hs167 := hs167.mono hle191
  replace hsyb1_0 := hsyb1_0.mono hle191
  replace hleJ150 := hleJ150.mono hle191
  replace hle0 := Fz.le.trans hle0 hle191
  have hM192 : Mem B [] w0 Z0 ((.row b1 [str r183.2.Reader.Row, .int .i64 r183.2.Reader.At, .int .i64 r183.2.Reader.Code, .int .u8 r183.2.Reader.c.last, .int .i64 r183.2.Reader.c.n, .int .i64 r183.2.f.ID, .bool r183.2.f.Long, .bool r183.2.f.Fast, .bool r183.2.f.Remote, .int .i64 r183.2.f.Size, .slice ao187 r183.2.f.Data.length cap188] 61) :: Rr) Z190 wd179 := hM182; clear hM182
  have hp193 := hp185 (hs189.small); clear hp185
  refine st hF181 (.bool (r183.1 == ([49] : List UInt8))) (nog rfl _) rfl (by kernel_rfl) (strcmp_run hF181 (g := []) (op := .eql) rfl (by kernel_rfl) (by kernel_rfl) (by decide) rfl) ?_; intro a194 hF195; clear hF181
  refine s1 hF195 67 (.pointer (some ⟨b1, 0, none⟩)) ?_; intro a196 hF197; clear hF195
  refine s1 hF197 68 (.pointer (some ⟨b1, 5, none⟩)) ?_; intro a198 hF199; clear hF197
  refine s1 hF199 69 (.pointer (some ⟨b1, 7, none⟩)) ?_; intro a200 hF201; clear hF199
  refine sr hF201 hM192 0 [str r183.2.Reader.Row, .int .i64 r183.2.Reader.At, .int .i64 r183.2.Reader.Code, .int .u8 r183.2.Reader.c.last, .int .i64 r183.2.Reader.c.n, .int .i64 r183.2.f.ID, .bool r183.2.f.Long, .bool (r183.1 == ([49] : List UInt8)), .bool r183.2.f.Remote, .int .i64 r183.2.f.Size, .slice ao187 r183.2.f.Data.length cap188] (b := b1) (off := 7) (cs := [str r183.2.Reader.Row, .int .i64 r183.2.Reader.At, .int .i64 r183.2.Reader.Code, .int .u8 r183.2.Reader.c.last, .int .i64 r183.2.Reader.c.n, .int .i64 r183.2.f.ID, .bool r183.2.f.Long, .bool r183.2.f.Fast, .bool r183.2.f.Remote, .int .i64 r183.2.f.Size, .slice ao187 r183.2.f.Data.length cap188]) (ty := 61) (u := .bool (r183.1 == ([49] : List UInt8))) (nog rfl _) rfl rfl (by kernel_rfl) (by kernel_rfl) (by kernel_rfl) (by kernel_rfl) (by kernel_rfl) (by kernel_rfl) (by kernel_rfl) ?_; intro wd202 hM203; clear hM192
  have hM204 : Mem B [] w0 Z0 ((.row b1 [str r183.2.Reader.Row, .int .i64 r183.2.Reader.At, .int .i64 r183.2.Reader.Code, .int .u8 r183.2.Reader.c.last, .int .i64 r183.2.Reader.c.n, .int .i64 r183.2.f.ID, .bool r183.2.f.Long, .bool (r183.1 == ([49] : List UInt8)), .bool r183.2.f.Remote, .int .i64 r183.2.f.Size, .slice ao187 r183.2.f.Data.length cap188] 61) :: Rr) Z190 wd202 := hM203; clear hM203
  refine nlH (hQ168 _ _ ?_); clear hQ168 hQ168Q
  refine wp_block ?_
  refine sqH ?_; intro hQ205Q hQ205
  refine s1 hF201 71 (.pointer (some ⟨b1, 0, none⟩)) ?_; intro a206 hF207; clear hF201
  refine s1 hF207 72 (.pointer (some ⟨b1, 0, none⟩)) ?_; intro a208 hF209; clear hF207
  refine s1 hF209 73 (.pointer (some ⟨b1, 5, none⟩)) ?_; intro a210 hF211; clear hF209
  refine s1 hF211 74 (.pointer (some ⟨b1, 7, none⟩)) ?_; intro a212 hF213; clear hF211
  refine l1 hF213 hM204 75 0 7 (.bool (r183.1 == ([49] : List UInt8))) rfl rfl ?_; intro a214 hF215; clear hF213
  refine s1 hF215 70 (.bool (r183.1 == ([49] : List UInt8))) ?_; intro a216 hF217; clear hF215
  refine nlH (hQ205 _ _ ?_); clear hQ205 hQ205Q
  refine cd hF217 (t := r183.1 == ([49] : List UInt8)) (by kernel_rfl) (fun hb218 => ?_) (fun hb218 => ?_)
  ·
   have hp219 := hp193.1 hb218; clear hp193
   refine wp_seq ?_
   have hF220 : Fr 97 [] [⟨0, [], .pointer (some ⟨b1, 0, none⟩)⟩] a216 := hF217.reg; clear hF217
   refine sqH ?_; intro hQ221Q hQ221
   refine s1 hF220 76 (.pointer (some ⟨b1, 0, none⟩)) ?_; intro a222 hF223; clear hF220
   refine s1 hF223 77 (.pointer (some ⟨b1, 0, none⟩)) ?_; intro a224 hF225; clear hF223
   refine s1 hF225 78 (.pointer (some ⟨b1, 5, none⟩)) ?_; intro a226 hF227; clear hF225
   refine s1 hF227 79 (.pointer (some ⟨b1, 8, none⟩)) ?_; intro a228 hF229; clear hF227
   refine l1 hF229 hM204 80 0 8 (.bool r183.2.f.Remote) rfl rfl ?_; intro a230 hF231; clear hF229
   refine nlH (hQ221 _ _ ?_); clear hQ221 hQ221Q
   have hF232 : Fr 97 [] [⟨0, [], .pointer (some ⟨b1, 0, none⟩)⟩, ⟨80, [], .bool r183.2.f.Remote⟩] a230 := hF231.reg; clear hF231
   have hF234 : Fr 97 [] [⟨0, [], .pointer (some ⟨b1, 0, none⟩)⟩, ⟨80, [], .bool r183.2.f.Remote⟩] a230 := hF232.reg; clear hF232
   obtain ⟨inv233, hp235, hp236⟩ := hp219
   refine wp_then_k fun KJ237 hKJ238 => ?_
   have hJ239 : ∀ (yb1v : FReader) (aoyb1v_0 : Option Addr) (capyb1v_0 : Nat) (ZJ233 : Fz), inv233 yb1v ∧ SlR (tyInt .u8) ZJ233 aoyb1v_0 capyb1v_0 yb1v.f.Data ∧ Fz.le Z190 ZJ233 → ∀ a1 w1, Fr 97 [] [⟨0, [], .pointer (some ⟨b1, 0, none⟩)⟩] a1 → Mem B [] w0 Z0 ((.row b1 [str yb1v.Reader.Row, .int .i64 yb1v.Reader.At, .int .i64 yb1v.Reader.Code, .int .u8 yb1v.Reader.c.last, .int .i64 yb1v.Reader.c.n, .int .i64 yb1v.f.ID, .bool yb1v.f.Long, .bool yb1v.f.Fast, .bool yb1v.f.Remote, .int .i64 yb1v.f.Size, .slice aoyb1v_0 yb1v.f.Data.length capyb1v_0] 61) :: Rr) ZJ233 w1 → KJ237 a1 w1 := by
    rintro yb1v aoyb1v_0 capyb1v_0 ZJ233 ⟨hI244, hsyb1v_0, hleJ233⟩ a240 wd241 hF242 hM243; clear hF234 hM204
    refine hKJ238 _ _ ?_; clear hKJ238
    have hp245 := hp236 yb1v hI244
    replace hle0 := Fz.le.trans hle0 hleJ233
    have hs246 := hs163.mono hleJ233
    have hs247 := hs164.mono hleJ233
    have hs248 := hs165.mono hleJ233
    have hs249 := hs166.mono hleJ233
    have hs250 := hs167.mono hleJ233
    have hs251 := hsyb1_0.mono hleJ233
    have hs252 := hleJ150.mono hleJ233
    have hs253 := hs189.mono hleJ233
    refine sqH ?_; intro hQ254Q hQ254
    refine s1 hF242 83 (.pointer (some ⟨b1, 0, none⟩)) ?_; intro a255 hF256; clear hF242
    have hc257 := hp245.1; have hp258 := hp245.2; clear hp245
    refine cl hF256 66 #[.pointer (some ⟨b1, 0, none⟩), str ([48] : List UInt8)] (nog rfl _) rfl (by kernel_rfl) (by kernel_rfl) ?_
    obtain ⟨r263, hr264⟩ : ∃ x, (rwantS yb1v ([48] : List UInt8)) = x := ⟨_, rfl⟩; have hp265 := hp258 r263 hr264; clear hp258
    have h9 := rwant_fun yb1v ([48] : List UInt8) hc257 b1 aoyb1v_0 capyb1v_0 _ _ _ _ _ _ hsyb1v_0 hM243 hM243.fz; rw [hr264] at h9; refine h9.mono ?_; clear h9; rintro _ wd259 ⟨ao267, cap268, Z270, rfl, hle271, hs269, hm⟩; refine ⟨_, rfl, ?_⟩; intro a260 hF261; have hM262 := hm; clear hm hM243 hF256
    replace hs246 := hs246.mono hle271
    replace hs247 := hs247.mono hle271
    replace hs248 := hs248.mono hle271
    replace hs249 := hs249.mono hle271
    replace hs250 := hs250.mono hle271
    replace hs251 := hs251.mono hle271
    replace hs252 := hs252.mono hle271
    replace hs253 := hs253.mono hle271
    replace hsyb1v_0 := hsyb1v_0.mono hle271
    replace hleJ233 := hleJ233.mono hle271
    replace hle0 := Fz.le.trans hle0 hle271
    have hM272 : Mem B [] w0 Z0 ((.row b1 [str r263.Reader.Row, .int .i64 r263.Reader.At, .int .i64 r263.Reader.Code, .int .u8 r263.Reader.c.last, .int .i64 r263.Reader.c.n, .int .i64 r263.f.ID, .bool r263.f.Long, .bool r263.f.Fast, .bool r263.f.Remote, .int .i64 r263.f.Size, .slice ao267 r263.f.Data.length cap268] 61) :: Rr) Z270 wd259 := hM262; clear hM262
    have hp273 := hp265 (hs269.small); clear hp265
    refine nlH (hQ254 _ _ ?_); clear hQ254 hQ254Q
    refine sqH ?_; intro hQ274Q hQ274
    refine s1 hF261 85 (.pointer (some ⟨b1, 0, none⟩)) ?_; intro a275 hF276; clear hF261
    have hc277 := hp273.1; have hp278 := hp273.2; clear hp273
    refine cl hF276 66 #[.pointer (some ⟨b1, 0, none⟩), str ([49] : List UInt8)] (nog rfl _) rfl (by kernel_rfl) (by kernel_rfl) ?_
    obtain ⟨r283, hr284⟩ : ∃ x, (rwantS r263 ([49] : List UInt8)) = x := ⟨_, rfl⟩; have hp285 := hp278 r283 hr284; clear hp278
    have h9 := rwant_fun r263 ([49] : List UInt8) hc277 b1 ao267 cap268 _ _ _ _ _ _ hs269 hM272 hM272.fz; rw [hr284] at h9; refine h9.mono ?_; clear h9; rintro _ wd279 ⟨ao287, cap288, Z290, rfl, hle291, hs289, hm⟩; refine ⟨_, rfl, ?_⟩; intro a280 hF281; have hM282 := hm; clear hm hM272 hF276
    replace hs246 := hs246.mono hle291
    replace hs247 := hs247.mono hle291
    replace hs248 := hs248.mono hle291
    replace hs249 := hs249.mono hle291
    replace hs250 := hs250.mono hle291
    replace hs251 := hs251.mono hle291
    replace hs252 := hs252.mono hle291
    replace hs253 := hs253.mono hle291
    replace hsyb1v_0 := hsyb1v_0.mono hle291
    replace hleJ233 := hleJ233.mono hle291
    replace hs269 := hs269.mono hle291
    replace hle0 := Fz.le.trans hle0 hle291
    have hM292 : Mem B [] w0 Z0 ((.row b1 [str r283.Reader.Row, .int .i64 r283.Reader.At, .int .i64 r283.Reader.Code, .int .u8 r283.Reader.c.last, .int .i64 r283.Reader.c.n, .int .i64 r283.f.ID, .bool r283.f.Long, .bool r283.f.Fast, .bool r283.f.Remote, .int .i64 r283.f.Size, .slice ao287 r283.f.Data.length cap288] 61) :: Rr) Z290 wd279 := hM282; clear hM282
    have hp293 := hp285 (hs289.small); clear hp285
    refine nlH (hQ274 _ _ ?_); clear hQ274 hQ274Q
    refine rgH ?_; intro hQ294Q hQ294
    refine s1 hF281 87 (.pointer (some ⟨b1, 0, none⟩)) ?_; intro a295 hF296; clear hF281
    have hc297 := hp293.1; have hp298 := hp293.2; clear hp293
    refine cl hF296 66 #[.pointer (some ⟨b1, 0, none⟩), str ([48] : List UInt8)] (nog rfl _) rfl (by kernel_rfl) (by kernel_rfl) ?_
    obtain ⟨r303, hr304⟩ : ∃ x, (rwantS r283 ([48] : List UInt8)) = x := ⟨_, rfl⟩; have hp305 := hp298 r303 hr304; clear hp298
    have h9 := rwant_fun r283 ([48] : List UInt8) hc297 b1 ao287 cap288 _ _ _ _ _ _ hs289 hM292 hM292.fz; rw [hr304] at h9; refine h9.mono ?_; clear h9; rintro _ wd299 ⟨ao307, cap308, Z310, rfl, hle311, hs309, hm⟩; refine ⟨_, rfl, ?_⟩; intro a300 hF301; have hM302 := hm; clear hm hM292 hF296
    replace hs246 := hs246.mono hle311
    replace hs247 := hs247.mono hle311
    replace hs248 := hs248.mono hle311
    replace hs249 := hs249.mono hle311
    replace hs250 := hs250.mono hle311
    replace hs251 := hs251.mono hle311
    replace hs252 := hs252.mono hle311
    replace hs253 := hs253.mono hle311
    replace hsyb1v_0 := hsyb1v_0.mono hle311
    replace hleJ233 := hleJ233.mono hle311
    replace hs269 := hs269.mono hle311
    replace hs289 := hs289.mono hle311
    replace hle0 := Fz.le.trans hle0 hle311
    have hM312 : Mem B [] w0 Z0 ((.row b1 [str r303.Reader.Row, .int .i64 r303.Reader.At, .int .i64 r303.Reader.Code, .int .u8 r303.Reader.c.last, .int .i64 r303.Reader.c.n, .int .i64 r303.f.ID, .bool r303.f.Long, .bool r303.f.Fast, .bool r303.f.Remote, .int .i64 r303.f.Size, .slice ao307 r303.f.Data.length cap308] 61) :: Rr) Z310 wd299 := hM302; clear hM302
    have hp313 := hp305 (hs309.small); clear hp305
    refine nlH (hQ294 _ _ ?_); clear hQ294 hQ294Q
    refine ibn ?_
    refine rN (fn := Tryz.f32) (v := .tuple #[]) hF301 (re0 hF301 (fn := Tryz.f32) rfl) ?_
    exact ⟨r303, ao307, cap308, Z310, rfl, hp313, hle0, hs309, hM312.keep (List.Sublist.cons_cons _ (List.Sublist.refl _))⟩
   have hle314 := Fz.le.refl Z190
   refine cd hF234 (t := r183.2.f.Remote) (by kernel_rfl) (fun hb315 => ?_) (fun hb315 => ?_)
   ·
    have hp316 := hp235.1 hb315; clear hp235
    refine rgH ?_; intro hQ317Q hQ317
    refine s1 hF234 81 (.pointer (some ⟨b1, 0, none⟩)) ?_; intro a318 hF319; clear hF234
    refine cl hF319 34 #[.pointer (some ⟨b1, 0, none⟩), .int .i64 4] (nog rfl _) rfl (by kernel_rfl) (by kernel_rfl) ?_
    obtain ⟨r324, hr325⟩ : ∃ x, (rfailS (⟨r183.2.Reader, (⟨r183.2.f.ID, r183.2.f.Long, r183.1 == ([49] : List UInt8), r183.2.f.Remote, r183.2.f.Size, r183.2.f.Data⟩ : Frame)⟩ : FReader) 4) = x := ⟨_, rfl⟩; have hp326 := hp316 r324 hr325; clear hp316
    have h9 := rfail_fun (⟨r183.2.Reader, (⟨r183.2.f.ID, r183.2.f.Long, r183.1 == ([49] : List UInt8), r183.2.f.Remote, r183.2.f.Size, r183.2.f.Data⟩ : Frame)⟩ : FReader) 4 b1 ao187 cap188 _ _ _ _ _ _ hs189 hM204 hM204.fz; rw [hr325] at h9; refine h9.mono ?_; clear h9; rintro _ wd320 ⟨ao328, cap329, Z331, rfl, hle332, hs330, hm⟩; refine ⟨_, rfl, ?_⟩; intro a321 hF322; have hM323 := hm; clear hm hM204 hF319
    replace hs163 := hs163.mono hle332
    replace hs164 := hs164.mono hle332
    replace hs165 := hs165.mono hle332
    replace hs166 := hs166.mono hle332
    replace hs167 := hs167.mono hle332
    replace hsyb1_0 := hsyb1_0.mono hle332
    replace hleJ150 := hleJ150.mono hle332
    replace hs189 := hs189.mono hle332
    replace hle314 := hle314.mono hle332
    replace hle0 := Fz.le.trans hle0 hle332
    have hM333 : Mem B [] w0 Z0 ((.row b1 [str r324.Reader.Row, .int .i64 r324.Reader.At, .int .i64 r324.Reader.Code, .int .u8 r324.Reader.c.last, .int .i64 r324.Reader.c.n, .int .i64 r324.f.ID, .bool r324.f.Long, .bool r324.f.Fast, .bool r324.f.Remote, .int .i64 r324.f.Size, .slice ao328 r324.f.Data.length cap329] 61) :: Rr) Z331 wd320 := hM323; clear hM323
    have hp334 := hp326 (hs330.small); clear hp326
    refine nlH (hQ317 _ _ ?_); clear hQ317 hQ317Q
    refine rd ?_
    exact hJ239 r324 ao328 cap329 Z331 ⟨hp334, hs330, hle314⟩ _ _ ((hF322.reg).anyβ _ (by kernel_rfl)) (hM333.keep (List.Sublist.cons_cons _ (List.Sublist.refl _)))
   ·
    have hp335 := hp235.2 hb315; clear hp235
    refine wp_skip ?_
    refine rd ?_
    exact hJ239 (⟨r183.2.Reader, (⟨r183.2.f.ID, r183.2.f.Long, r183.1 == ([49] : List UInt8), r183.2.f.Remote, r183.2.f.Size, r183.2.f.Data⟩ : Frame)⟩ : FReader) ao187 cap188 Z190 ⟨hp335, hs189, hle314⟩ _ _ ((hF234.reg).anyβ _ (by kernel_rfl)) (hM204.keep (List.Sublist.cons_cons _ (List.Sublist.refl _)))
  ·
   have hp336 := hp193.2 hb218; clear hp193
   have hF337 : Fr 97 [] [⟨0, [], .pointer (some ⟨b1, 0, none⟩)⟩] a216 := hF217.reg; clear hF217
   refine sqH ?_; intro hQ338Q hQ338
   refine s1 hF337 90 (.pointer (some ⟨b1, 0, none⟩)) ?_; intro a339 hF340; clear hF337
   refine s1 hF340 91 (.pointer (some ⟨b1, 0, none⟩)) ?_; intro a341 hF342; clear hF340
   refine s1 hF342 92 (.pointer (some ⟨b1, 5, none⟩)) ?_; intro a343 hF344; clear hF342
   refine s1 hF344 93 (.pointer (some ⟨b1, 6, none⟩)) ?_; intro a345 hF346; clear hF344
   refine l1 hF346 hM204 94 0 6 (.bool r183.2.f.Long) rfl rfl ?_; intro a347 hF348; clear hF346
   refine s1 hF348 89 (.bool r183.2.f.Long) ?_; intro a349 hF350; clear hF348
   refine nlH (hQ338 _ _ ?_); clear hQ338 hQ338Q
   refine cd hF350 (t := r183.2.f.Long) (by kernel_rfl) (fun hb351 => ?_) (fun hb351 => ?_)
   ·
    have hp352 := hp336.1 hb351; clear hp336
    refine rgH ?_; intro hQ353Q hQ353
    refine s1 hF350 95 (.pointer (some ⟨b1, 0, none⟩)) ?_; intro a354 hF355; clear hF350
    have hc356 := hp352.1; have hp357 := hp352.2; clear hp352
    refine cl hF355 66 #[.pointer (some ⟨b1, 0, none⟩), str ([48] : List UInt8)] (nog rfl _) rfl (by kernel_rfl) (by kernel_rfl) ?_
    obtain ⟨r362, hr363⟩ : ∃ x, (rwantS (⟨r183.2.Reader, (⟨r183.2.f.ID, r183.2.f.Long, r183.1 == ([49] : List UInt8), r183.2.f.Remote, r183.2.f.Size, r183.2.f.Data⟩ : Frame)⟩ : FReader) ([48] : List UInt8)) = x := ⟨_, rfl⟩; have hp364 := hp357 r362 hr363; clear hp357
    have h9 := rwant_fun (⟨r183.2.Reader, (⟨r183.2.f.ID, r183.2.f.Long, r183.1 == ([49] : List UInt8), r183.2.f.Remote, r183.2.f.Size, r183.2.f.Data⟩ : Frame)⟩ : FReader) ([48] : List UInt8) hc356 b1 ao187 cap188 _ _ _ _ _ _ hs189 hM204 hM204.fz; rw [hr363] at h9; refine h9.mono ?_; clear h9; rintro _ wd358 ⟨ao366, cap367, Z369, rfl, hle370, hs368, hm⟩; refine ⟨_, rfl, ?_⟩; intro a359 hF360; have hM361 := hm; clear hm hM204 hF355
    replace hs163 := hs163.mono hle370
    replace hs164 := hs164.mono hle370
    replace hs165 := hs165.mono hle370
    replace hs166 := hs166.mono hle370
    replace hs167 := hs167.mono hle370
    replace hsyb1_0 := hsyb1_0.mono hle370
    replace hleJ150 := hleJ150.mono hle370
    replace hs189 := hs189.mono hle370
    replace hle0 := Fz.le.trans hle0 hle370
    have hM371 : Mem B [] w0 Z0 ((.row b1 [str r362.Reader.Row, .int .i64 r362.Reader.At, .int .i64 r362.Reader.Code, .int .u8 r362.Reader.c.last, .int .i64 r362.Reader.c.n, .int .i64 r362.f.ID, .bool r362.f.Long, .bool r362.f.Fast, .bool r362.f.Remote, .int .i64 r362.f.Size, .slice ao366 r362.f.Data.length cap367] 61) :: Rr) Z369 wd358 := hM361; clear hM361
    have hp372 := hp364 (hs368.small); clear hp364
    refine nlH (hQ353 _ _ ?_); clear hQ353 hQ353Q
    refine ibn ?_
    refine rN (fn := Tryz.f32) (v := .tuple #[]) hF360 (re0 hF360 (fn := Tryz.f32) rfl) ?_
    exact ⟨r362, ao366, cap367, Z369, rfl, hp372, hle0, hs368, hM371.keep (List.Sublist.cons_cons _ (List.Sublist.refl _))⟩
   ·
    have hp373 := hp336.2 hb351; clear hp336
    refine wp_skip ?_
    refine ibn ?_
    refine rN (fn := Tryz.f32) (v := .tuple #[]) hF350 (re0 hF350 (fn := Tryz.f32) rfl) ?_
    exact ⟨(⟨r183.2.Reader, (⟨r183.2.f.ID, r183.2.f.Long, r183.1 == ([49] : List UInt8), r183.2.f.Remote, r183.2.f.Size, r183.2.f.Data⟩ : Frame)⟩ : FReader), ao187, cap188, Z190, rfl, hp373, hle0, hs189, hM204.keep (List.Sublist.cons_cons _ (List.Sublist.refl _))⟩
 have hle374 := Fz.le.refl Z108
 refine cd hF151 (t := r101.1 == ([49] : List UInt8)) (by kernel_rfl) (fun hb375 => ?_) (fun hb375 => ?_)
 ·
  have hp376 := hp152.1 hb375; clear hp152
  refine wp_seq ?_
  refine sqH ?_; intro hQ377Q hQ377
  refine s1 hF151 35 (.bool (r70.1 == ([49] : List UInt8))) ?_; intro a378 hF379; clear hF151
  refine s1 hF379 36 (.bool (!(r70.1 == ([49] : List UInt8)))) ?_; intro a380 hF381; clear hF379
  refine nlH (hQ377 _ _ ?_); clear hQ377 hQ377Q
  have hF382 : Fr 97 [] [⟨0, [], .pointer (some ⟨b1, 0, none⟩)⟩, ⟨36, [], .bool (!(r70.1 == ([49] : List UInt8)))⟩] a380 := hF381.reg; clear hF381
  have hF384 : Fr 97 [] [⟨0, [], .pointer (some ⟨b1, 0, none⟩)⟩, ⟨36, [], .bool (!(r70.1 == ([49] : List UInt8)))⟩] a380 := hF382.reg; clear hF382
  obtain ⟨inv383, hp385, hp386⟩ := hp376
  refine wp_then_k fun KJ387 hKJ388 => ?_
  have hJ389 : ∀ (yb1v : FReader) (aoyb1v_0 : Option Addr) (capyb1v_0 : Nat) (ZJ383 : Fz), inv383 yb1v ∧ SlR (tyInt .u8) ZJ383 aoyb1v_0 capyb1v_0 yb1v.f.Data ∧ Fz.le Z108 ZJ383 → ∀ a1 w1, Fr 97 [] [⟨0, [], .pointer (some ⟨b1, 0, none⟩)⟩] a1 → Mem B [] w0 Z0 ((.row b1 [str yb1v.Reader.Row, .int .i64 yb1v.Reader.At, .int .i64 yb1v.Reader.Code, .int .u8 yb1v.Reader.c.last, .int .i64 yb1v.Reader.c.n, .int .i64 yb1v.f.ID, .bool yb1v.f.Long, .bool yb1v.f.Fast, .bool yb1v.f.Remote, .int .i64 yb1v.f.Size, .slice aoyb1v_0 yb1v.f.Data.length capyb1v_0] 61) :: Rr) ZJ383 w1 → KJ387 a1 w1 := by
   rintro yb1v aoyb1v_0 capyb1v_0 ZJ383 ⟨hI394, hsyb1v_0, hleJ383⟩ a390 wd391 hF392 hM393; clear hF384 hM136
   refine hKJ388 _ _ ?_; clear hKJ388
   have hp395 := hp386 yb1v hI394
   replace hle0 := Fz.le.trans hle0 hleJ383
   have hs396 := hs4.mono hleJ383
   have hs397 := hs21.mono hleJ383
   have hs398 := hs43.mono hleJ383
   have hs399 := hs76.mono hleJ383
   have hs400 := hs107.mono hleJ383
   have hs401 := hle374.mono hleJ383
   have hF402 : Fr 97 [] [⟨0, [], .pointer (some ⟨b1, 0, none⟩)⟩] a390 := hF392.reg; clear hF392
   have hcd8_0 := hp395.1; have hp439 := hp395.2; clear hp395
   refine wp_seq (any_invE mixed [[], [], [1], [2], [3], [4], [5], [], [7], [6, 8], [0, 1, 2, 3, 4, 5, 6, 7, 8, 9], [0, 1, 2, 3, 4, 5, 6, 7, 8, 9, 10], [0, 1, 2, 3, 4, 5, 6, 7, 8, 9, 11], [0, 1, 2, 3, 4, 5, 6, 7, 8, 9, 12]] 14 (fun S a w1 => ∃ (ao423 : Option Addr) (cap424 : Nat) (ud39 : Value) (ud40 : Value) (ud41 : Value) (ud42 : Value) (ud43 : Value) (ud44 : Value) (ud45 : Value) (ud46 : Value) (ud47 : Value) (ud48 : Value) (ud49 : Value) (ud50 : Value) (ud51 : Value) (rh0 : Res) (Z440 : Fz), Fz.le ZJ383 Z440 ∧ Fr 97 [] [⟨0, [], .pointer (some ⟨b1, 0, none⟩)⟩, ⟨39, [], ud39⟩, ⟨40, [], ud40⟩, ⟨41, [], ud41⟩, ⟨42, [], ud42⟩, ⟨43, [], ud43⟩, ⟨44, [], ud44⟩, ⟨45, [], ud45⟩, ⟨46, [], ud46⟩, ⟨47, [], ud47⟩, ⟨48, [], ud48⟩, ⟨49, [], ud49⟩, ⟨50, [], ud50⟩, ⟨51, [], ud51⟩] a ∧ Mem B [] w0 Z0 (rh0 :: Rr) Z440 w1 ∧ (S 0 = true → ud39 = .pointer (some ⟨b1, 0, none⟩)) ∧ (S 1 = true → ud40 = .pointer (some ⟨b1, 0, none⟩)) ∧ (S 2 = true → ud41 = .pointer (some ⟨b1, 0, none⟩)) ∧ (S 3 = true → ud42 = .pointer (some ⟨b1, 5, none⟩)) ∧ (S 4 = true → ud43 = .pointer (some ⟨b1, 5, none⟩)) ∧ (S 5 = true → ud44 = .int .i64 yb1v.f.ID) ∧ (S 6 = true → ud45 = .int .i64 (bShl .i64 yb1v.f.ID 18)) ∧ (S 7 = true → ud46 = .pointer (some ⟨b1, 0, none⟩)) ∧ (S 8 = true → ud47 = .int .i64 ((rnumberS yb1v 18).1)) ∧ (S 9 = true → ud48 = .int .i64 (bOr .i64 (bShl .i64 yb1v.f.ID 18) ((rnumberS yb1v 18).1))) ∧ (S 10 = true → ud49 = .pointer (some ⟨b1, 0, none⟩)) ∧ (S 11 = true → ud50 = .pointer (some ⟨b1, 5, none⟩)) ∧ (S 12 = true → ud51 = .pointer (some ⟨b1, 5, none⟩)) ∧ (S 8 = false → rh0 = .row b1 [str yb1v.Reader.Row, .int .i64 yb1v.Reader.At, .int .i64 yb1v.Reader.Code, .int .u8 yb1v.Reader.c.last, .int .i64 yb1v.Reader.c.n, .int .i64 yb1v.f.ID, .bool yb1v.f.Long, .bool yb1v.f.Fast, .bool yb1v.f.Remote, .int .i64 yb1v.f.Size, .slice aoyb1v_0 yb1v.f.Data.length capyb1v_0] 61) ∧ (S 8 = true → S 13 = false → rh0 = .row b1 [str ((((rnumberS yb1v 18).2).Reader).Row), .int .i64 ((((rnumberS yb1v 18).2).Reader).At), .int .i64 ((((rnumberS yb1v 18).2).Reader).Code), .int .u8 (((((rnumberS yb1v 18).2).Reader).c).last), .int .i64 (((((rnumberS yb1v 18).2).Reader).c).n), .int .i64 yb1v.f.ID, .bool yb1v.f.Long, .bool yb1v.f.Fast, .bool yb1v.f.Remote, .int .i64 yb1v.f.Size, .slice ao423 yb1v.f.Data.length cap424] 61) ∧ (S 13 = true → rh0 = .row b1 [str ((((rnumberS yb1v 18).2).Reader).Row), .int .i64 ((((rnumberS yb1v 18).2).Reader).At), .int .i64 ((((rnumberS yb1v 18).2).Reader).Code), .int .u8 (((((rnumberS yb1v 18).2).Reader).c).last), .int .i64 (((((rnumberS yb1v 18).2).Reader).c).n), .int .i64 (bOr .i64 (bShl .i64 yb1v.f.ID 18) ((rnumberS yb1v 18).1)), .bool yb1v.f.Long, .bool yb1v.f.Fast, .bool yb1v.f.Remote, .int .i64 yb1v.f.Size, .slice ao423 yb1v.f.Data.length cap424] 61) ∧ (S 8 = true → SlR (tyInt .u8) Z440 ao423 cap424 yb1v.f.Data)) ?h0 ?hs ?hE)
   case h0 =>
    have hF442 := hF402.any 39
    have hF443 := hF442.any 40
    have hF444 := hF443.any 41
    have hF445 := hF444.any 42
    have hF446 := hF445.any 43
    have hF447 := hF446.any 44
    have hF448 := hF447.any 45
    have hF449 := hF448.any 46
    have hF450 := hF449.any 47
    have hF451 := hF450.any 48
    have hF452 := hF451.any 49
    have hF453 := hF452.any 50
    have hF454 := hF453.any 51
    have hM455 := (hM393.perm lpr).drew
    exact ⟨none, 0, a390.tmps.getD 39 undef, a390.tmps.getD 40 undef, a390.tmps.getD 41 undef, a390.tmps.getD 42 undef, a390.tmps.getD 43 undef, a390.tmps.getD 44 undef, a390.tmps.getD 45 undef, a390.tmps.getD 46 undef, a390.tmps.getD 47 undef, a390.tmps.getD 48 undef, a390.tmps.getD 49 undef, a390.tmps.getD 50 undef, a390.tmps.getD 51 undef, .row b1 [str yb1v.Reader.Row, .int .i64 yb1v.Reader.At, .int .i64 yb1v.Reader.Code, .int .u8 yb1v.Reader.c.last, .int .i64 yb1v.Reader.c.n, .int .i64 yb1v.f.ID, .bool yb1v.f.Long, .bool yb1v.f.Fast, .bool yb1v.f.Remote, .int .i64 yb1v.f.Size, .slice aoyb1v_0 yb1v.f.Data.length capyb1v_0] 61, ZJ383, Fz.le.refl _, hF454.reg, hM455, ff, ff, ff, ff, ff, ff, ff, ff, ff, ff, ff, ff, ff, kf, ff, ff, ff⟩
   case hs =>
    intro S hcl i o hil hi hSi hpre a w1 hI; refine Go.Sy.hid ?_; intro G hG; obtain ⟨ao423, cap424, ud39, ud40, ud41, ud42, ud43, ud44, ud45, ud46, ud47, ud48, ud49, ud50, ud51, rh0, Z440, hle441, hFx, hMx, cu39, cu40, cu41, cu42, cu43, cu44, cu45, cu46, cu47, cu48, cu49, cu50, cu51, cr0_0, cr0_1, cr0_2, hI⟩ := hI; have cf0 := hI; clear hI
    have hcase : i = 0 ∨ i = 1 ∨ i = 2 ∨ i = 3 ∨ i = 4 ∨ i = 5 ∨ i = 6 ∨ i = 7 ∨ i = 8 ∨ i = 9 ∨ i = 10 ∨ i = 11 ∨ i = 12 ∨ i = 13 := by clear hi; omega
    rcases hcase with rfl | rfl | rfl | rfl | rfl | rfl | rfl | rfl | rfl | rfl | rfl | rfl | rfl | rfl
    ·
     obtain rfl := oj hi
     have hx0 := hSi
     have hx10 := ngF hcl 10 0 hx0
     have hx11 := ngF hcl 11 0 hx0
     have hx12 := ngF hcl 12 0 hx0
     have hx13 := ngF hcl 13 0 hx0
     refine hG (any_step ?_); clear hG G; intro A J hJ
     have hle0 := Fz.le.trans hle0 hle441
     have hzst := Fz.le.refl Z440
     have hs456 := hs396.mono hle441
     have hs457 := hs397.mono hle441
     have hs458 := hs398.mono hle441
     have hs459 := hs399.mono hle441
     have hs460 := hs400.mono hle441
     have hs461 := hs401.mono hle441
     have hs462 := hsyb1v_0.mono hle441
     have hs463 := hleJ383.mono hle441
     refine s1 hFx 39 (.pointer (some ⟨b1, 0, none⟩)) ?_; intro a464 hF465; clear hFx
     refine nl (qnI (hJ _ _ ?_)); clear hJ J
     exact ⟨ao423, cap424, .pointer (some ⟨b1, 0, none⟩), ud40, ud41, ud42, ud43, ud44, ud45, ud46, ud47, ud48, ud49, ud50, ud51, rh0, Z440, hle441, hF465.reg, hMx.perm lpr, kf, cu40, cu41, cu42, cu43, cu44, cu45, cu46, cu47, cu48, (nt hx10), (nt hx11), (nt hx12), cr0_0, cr0_1, (nt hx13), cf0⟩
    ·
     obtain rfl := oj hi
     have hx1 := hSi
     have hx2 := ngF hcl 2 1 hx1
     have hx3 := ngF hcl 3 2 hx2
     have hx4 := ngF hcl 4 3 hx3
     have hx5 := ngF hcl 5 4 hx4
     have hx6 := ngF hcl 6 5 hx5
     have hx9 := ngF hcl 9 6 hx6
     have hx10 := ngF hcl 10 1 hx1
     have hx11 := ngF hcl 11 1 hx1
     have hx12 := ngF hcl 12 1 hx1
     have hx13 := ngF hcl 13 1 hx1
     refine hG (any_step ?_); clear hG G; intro A J hJ
     have hle0 := Fz.le.trans hle0 hle441
     have hzst := Fz.le.refl Z440
     have hs467 := hs396.mono hle441
     have hs468 := hs397.mono hle441
     have hs469 := hs398.mono hle441
     have hs470 := hs399.mono hle441
     have hs471 := hs400.mono hle441
     have hs472 := hs401.mono hle441
     have hs473 := hsyb1v_0.mono hle441
     have hs474 := hleJ383.mono hle441
     refine s1 hFx 40 (.pointer (some ⟨b1, 0, none⟩)) ?_; intro a475 hF476; clear hFx
     refine nl (qnI (hJ _ _ ?_)); clear hJ J
     exact ⟨ao423, cap424, ud39, .pointer (some ⟨b1, 0, none⟩), ud41, ud42, ud43, ud44, ud45, ud46, ud47, ud48, ud49, ud50, ud51, rh0, Z440, hle441, hF476.reg, hMx.perm lpr, cu39, kf, (nt hx2), (nt hx3), (nt hx4), (nt hx5), (nt hx6), cu46, cu47, (nt hx9), (nt hx10), (nt hx11), (nt hx12), cr0_0, cr0_1, (nt hx13), cf0⟩
    ·
     obtain rfl := oj hi
     have hx1 := hpre 1 (by kernel_rfl)
     have hx2 := hSi
     have hx3 := ngF hcl 3 2 hx2
     have hx4 := ngF hcl 4 3 hx3
     have hx5 := ngF hcl 5 4 hx4
     have hx6 := ngF hcl 6 5 hx5
     have hx9 := ngF hcl 9 6 hx6
     have hx10 := ngF hcl 10 2 hx2
     have hx11 := ngF hcl 11 2 hx2
     have hx12 := ngF hcl 12 2 hx2
     have hx13 := ngF hcl 13 2 hx2
     obtain rfl := cu40 hx1
     refine hG (any_step ?_); clear hG G; intro A J hJ
     have hle0 := Fz.le.trans hle0 hle441
     have hzst := Fz.le.refl Z440
     have hs478 := hs396.mono hle441
     have hs479 := hs397.mono hle441
     have hs480 := hs398.mono hle441
     have hs481 := hs399.mono hle441
     have hs482 := hs400.mono hle441
     have hs483 := hs401.mono hle441
     have hs484 := hsyb1v_0.mono hle441
     have hs485 := hleJ383.mono hle441
     refine s1 hFx 41 (.pointer (some ⟨b1, 0, none⟩)) ?_; intro a486 hF487; clear hFx
     refine nl (qnI (hJ _ _ ?_)); clear hJ J
     exact ⟨ao423, cap424, ud39, .pointer (some ⟨b1, 0, none⟩), .pointer (some ⟨b1, 0, none⟩), ud42, ud43, ud44, ud45, ud46, ud47, ud48, ud49, ud50, ud51, rh0, Z440, hle441, hF487.reg, hMx.perm lpr, cu39, kf, kf, (nt hx3), (nt hx4), (nt hx5), (nt hx6), cu46, cu47, (nt hx9), (nt hx10), (nt hx11), (nt hx12), cr0_0, cr0_1, (nt hx13), cf0⟩
    ·
     obtain rfl := oj hi
     have hx2 := hpre 2 (by kernel_rfl)
     have hx1 := hcl 2 1 (by kernel_rfl) hx2
     have hx3 := hSi
     have hx4 := ngF hcl 4 3 hx3
     have hx5 := ngF hcl 5 4 hx4
     have hx6 := ngF hcl 6 5 hx5
     have hx9 := ngF hcl 9 6 hx6
     have hx10 := ngF hcl 10 3 hx3
     have hx11 := ngF hcl 11 3 hx3
     have hx12 := ngF hcl 12 3 hx3
     have hx13 := ngF hcl 13 3 hx3
     obtain rfl := cu40 hx1
     obtain rfl := cu41 hx2
     refine hG (any_step ?_); clear hG G; intro A J hJ
     have hle0 := Fz.le.trans hle0 hle441
     have hzst := Fz.le.refl Z440
     have hs489 := hs396.mono hle441
     have hs490 := hs397.mono hle441
     have hs491 := hs398.mono hle441
     have hs492 := hs399.mono hle441
     have hs493 := hs400.mono hle441
     have hs494 := hs401.mono hle441
     have hs495 := hsyb1v_0.mono hle441
     have hs496 := hleJ383.mono hle441
     refine s1 hFx 42 (.pointer (some ⟨b1, 5, none⟩)) ?_; intro a497 hF498; clear hFx
     refine nl (qnI (hJ _ _ ?_)); clear hJ J
     exact ⟨ao423, cap424, ud39, .pointer (some ⟨b1, 0, none⟩), .pointer (some ⟨b1, 0, none⟩), .pointer (some ⟨b1, 5, none⟩), ud43, ud44, ud45, ud46, ud47, ud48, ud49, ud50, ud51, rh0, Z440, hle441, hF498.reg, hMx.perm lpr, cu39, kf, kf, kf, (nt hx4), (nt hx5), (nt hx6), cu46, cu47, (nt hx9), (nt hx10), (nt hx11), (nt hx12), cr0_0, cr0_1, (nt hx13), cf0⟩
    ·
     obtain rfl := oj hi
     have hx3 := hpre 3 (by kernel_rfl)
     have hx2 := hcl 3 2 (by kernel_rfl) hx3
     have hx1 := hcl 2 1 (by kernel_rfl) hx2
     have hx4 := hSi
     have hx5 := ngF hcl 5 4 hx4
     have hx6 := ngF hcl 6 5 hx5
     have hx9 := ngF hcl 9 6 hx6
     have hx10 := ngF hcl 10 4 hx4
     have hx11 := ngF hcl 11 4 hx4
     have hx12 := ngF hcl 12 4 hx4
     have hx13 := ngF hcl 13 4 hx4
     obtain rfl := cu40 hx1
     obtain rfl := cu41 hx2
     obtain rfl := cu42 hx3
     refine hG (any_step ?_); clear hG G; intro A J hJ
     have hle0 := Fz.le.trans hle0 hle441
     have hzst := Fz.le.refl Z440
     have hs500 := hs396.mono hle441
     have hs501 := hs397.mono hle441
     have hs502 := hs398.mono hle441
     have hs503 := hs399.mono hle441
     have hs504 := hs400.mono hle441
     have hs505 := hs401.mono hle441
     have hs506 := hsyb1v_0.mono hle441
     have hs507 := hleJ383.mono hle441
     refine s1 hFx 43 (.pointer (some ⟨b1, 5, none⟩)) ?_; intro a508 hF509; clear hFx
     refine nl (qnI (hJ _ _ ?_)); clear hJ J
     exact ⟨ao423, cap424, ud39, .pointer (some ⟨b1, 0, none⟩), .pointer (some ⟨b1, 0, none⟩), .pointer (some ⟨b1, 5, none⟩), .pointer (some ⟨b1, 5, none⟩), ud44, ud45, ud46, ud47, ud48, ud49, ud50, ud51, rh0, Z440, hle441, hF509.reg, hMx.perm lpr, cu39, kf, kf, kf, kf, (nt hx5), (nt hx6), cu46, cu47, (nt hx9), (nt hx10), (nt hx11), (nt hx12), cr0_0, cr0_1, (nt hx13), cf0⟩
    ·
     obtain rfl := oj hi
     have hx4 := hpre 4 (by kernel_rfl)
     have hx3 := hcl 4 3 (by kernel_rfl) hx4
     have hx2 := hcl 3 2 (by kernel_rfl) hx3
     have hx1 := hcl 2 1 (by kernel_rfl) hx2
     have hx5 := hSi
     have hx6 := ngF hcl 6 5 hx5
     have hx9 := ngF hcl 9 6 hx6
     have hx10 := ngF hcl 10 5 hx5
     have hx11 := ngF hcl 11 5 hx5
     have hx12 := ngF hcl 12 5 hx5
     have hx13 := ngF hcl 13 5 hx5
     rcases Bool.eq_false_or_eq_true (S 8) with hx8 | hx8
     ·
      have hx7 := hcl 8 7 (by kernel_rfl) hx8
      obtain rfl := cu40 hx1
      obtain rfl := cu41 hx2
      obtain rfl := cu42 hx3
      obtain rfl := cu43 hx4
      obtain rfl := cu46 hx7
      obtain rfl := cu47 hx8
      obtain rfl := cr0_1 hx8 hx13
      refine hG (any_step ?_); clear hG G; intro A J hJ
      have hle0 := Fz.le.trans hle0 hle441
      have hzst := Fz.le.refl Z440
      have hs511 := hs396.mono hle441
      have hs512 := hs397.mono hle441
      have hs513 := hs398.mono hle441
      have hs514 := hs399.mono hle441
      have hs515 := hs400.mono hle441
      have hs516 := hs401.mono hle441
      have hs517 := hsyb1v_0.mono hle441
      have hs518 := hleJ383.mono hle441
      have hs519 := cf0 hx8
      refine l1 hFx hMx 44 0 5 (.int .i64 yb1v.f.ID) rfl rfl ?_; intro a520 hF521; clear hFx
      refine nl (qnI (hJ _ _ ?_)); clear hJ J
      exact ⟨ao423, cap424, ud39, .pointer (some ⟨b1, 0, none⟩), .pointer (some ⟨b1, 0, none⟩), .pointer (some ⟨b1, 5, none⟩), .pointer (some ⟨b1, 5, none⟩), .int .i64 yb1v.f.ID, ud45, .pointer (some ⟨b1, 0, none⟩), .int .i64 ((rnumberS yb1v 18).1), ud48, ud49, ud50, ud51, .row b1 [str ((((rnumberS yb1v 18).2).Reader).Row), .int .i64 ((((rnumberS yb1v 18).2).Reader).At), .int .i64 ((((rnumberS yb1v 18).2).Reader).Code), .int .u8 (((((rnumberS yb1v 18).2).Reader).c).last), .int .i64 (((((rnumberS yb1v 18).2).Reader).c).n), .int .i64 yb1v.f.ID, .bool yb1v.f.Long, .bool yb1v.f.Fast, .bool yb1v.f.Remote, .int .i64 yb1v.f.Size, .slice ao423 yb1v.f.Data.length cap424] 61, Z440, hle441, hF521.reg, hMx.perm lpr, cu39, kf, kf, kf, kf, kf, (nt hx6), kf, kf, (nt hx9), (nt hx10), (nt hx11), (nt hx12), (tn hx8), kf2, (nt hx13), (fun _ => hs519)⟩
     ·
      obtain rfl := cu40 hx1
      obtain rfl := cu41 hx2
      obtain rfl := cu42 hx3
      obtain rfl := cu43 hx4
      obtain rfl := cr0_0 hx8
      refine hG (any_step ?_); clear hG G; intro A J hJ
      have hle0 := Fz.le.trans hle0 hle441
      have hzst := Fz.le.refl Z440
      have hs523 := hs396.mono hle441
      have hs524 := hs397.mono hle441
      have hs525 := hs398.mono hle441
      have hs526 := hs399.mono hle441
      have hs527 := hs400.mono hle441
      have hs528 := hs401.mono hle441
      have hs529 := hsyb1v_0.mono hle441
      have hs530 := hleJ383.mono hle441
      refine l1 hFx hMx 44 0 5 (.int .i64 yb1v.f.ID) rfl rfl ?_; intro a531 hF532; clear hFx
      refine nl (qnI (hJ _ _ ?_)); clear hJ J
      exact ⟨ao423, cap424, ud39, .pointer (some ⟨b1, 0, none⟩), .pointer (some ⟨b1, 0, none⟩), .pointer (some ⟨b1, 5, none⟩), .pointer (some ⟨b1, 5, none⟩), .int .i64 yb1v.f.ID, ud45, ud46, ud47, ud48, ud49, ud50, ud51, .row b1 [str yb1v.Reader.Row, .int .i64 yb1v.Reader.At, .int .i64 yb1v.Reader.Code, .int .u8 yb1v.Reader.c.last, .int .i64 yb1v.Reader.c.n, .int .i64 yb1v.f.ID, .bool yb1v.f.Long, .bool yb1v.f.Fast, .bool yb1v.f.Remote, .int .i64 yb1v.f.Size, .slice aoyb1v_0 yb1v.f.Data.length capyb1v_0] 61, Z440, hle441, hF532.reg, hMx.perm lpr, cu39, kf, kf, kf, kf, kf, (nt hx6), cu46, (nt hx8), (nt hx9), (nt hx10), (nt hx11), (nt hx12), kf, (fun h _ => nt hx8 h), (nt hx13), (nt hx8)⟩
    ·
     obtain rfl := oj hi
     have hx5 := hpre 5 (by kernel_rfl)
     have hx4 := hcl 5 4 (by kernel_rfl) hx5
     have hx3 := hcl 4 3 (by kernel_rfl) hx4
     have hx2 := hcl 3 2 (by kernel_rfl) hx3
     have hx1 := hcl 2 1 (by kernel_rfl) hx2
     have hx6 := hSi
     have hx9 := ngF hcl 9 6 hx6
     have hx10 := ngF hcl 10 6 hx6
     have hx11 := ngF hcl 11 6 hx6
     have hx12 := ngF hcl 12 6 hx6
     have hx13 := ngF hcl 13 6 hx6
     obtain rfl := cu40 hx1
     obtain rfl := cu41 hx2
     obtain rfl := cu42 hx3
     obtain rfl := cu43 hx4
     obtain rfl := cu44 hx5
     refine hG (any_step ?_); clear hG G; intro A J hJ
     have hle0 := Fz.le.trans hle0 hle441
     have hzst := Fz.le.refl Z440
     have hs534 := hs396.mono hle441
     have hs535 := hs397.mono hle441
     have hs536 := hs398.mono hle441
     have hs537 := hs399.mono hle441
     have hs538 := hs400.mono hle441
     have hs539 := hs401.mono hle441
     have hs540 := hsyb1v_0.mono hle441
     have hs541 := hleJ383.mono hle441
     refine s1 hFx 45 (.int .i64 (bShl .i64 yb1v.f.ID 18)) ?_; intro a542 hF543; clear hFx
     refine nl (qnI (hJ _ _ ?_)); clear hJ J
     exact ⟨ao423, cap424, ud39, .pointer (some ⟨b1, 0, none⟩), .pointer (some ⟨b1, 0, none⟩), .pointer (some ⟨b1, 5, none⟩), .pointer (some ⟨b1, 5, none⟩), .int .i64 yb1v.f.ID, .int .i64 (bShl .i64 yb1v.f.ID 18), ud46, ud47, ud48, ud49, ud50, ud51, rh0, Z440, hle441, hF543.reg, hMx.perm lpr, cu39, kf, kf, kf, kf, kf, kf, cu46, cu47, (nt hx9), (nt hx10), (nt hx11), (nt hx12), cr0_0, cr0_1, (nt hx13), cf0⟩
    ·
     obtain rfl := oj hi
     have hx7 := hSi
     have hx8 := ngF hcl 8 7 hx7
     have hx9 := ngF hcl 9 8 hx8
     have hx10 := ngF hcl 10 7 hx7
     have hx11 := ngF hcl 11 7 hx7
     have hx12 := ngF hcl 12 7 hx7
     have hx13 := ngF hcl 13 7 hx7
     obtain rfl := cr0_0 hx8
     refine hG (any_step ?_); clear hG G; intro A J hJ
     have hle0 := Fz.le.trans hle0 hle441
     have hzst := Fz.le.refl Z440
     have hs545 := hs396.mono hle441
     have hs546 := hs397.mono hle441
     have hs547 := hs398.mono hle441
     have hs548 := hs399.mono hle441
     have hs549 := hs400.mono hle441
     have hs550 := hs401.mono hle441
     have hs551 := hsyb1v_0.mono hle441
     have hs552 := hleJ383.mono hle441
     refine s1 hFx 46 (.pointer (some ⟨b1, 0, none⟩)) ?_; intro a553 hF554; clear hFx
     refine nl (qnI (hJ _ _ ?_)); clear hJ J
     exact ⟨ao423, cap424, ud39, ud40, ud41, ud42, ud43, ud44, ud45, .pointer (some ⟨b1, 0, none⟩), ud47, ud48, ud49, ud50, ud51, .row b1 [str yb1v.Reader.Row, .int .i64 yb1v.Reader.At, .int .i64 yb1v.Reader.Code, .int .u8 yb1v.Reader.c.last, .int .i64 yb1v.Reader.c.n, .int .i64 yb1v.f.ID, .bool yb1v.f.Long, .bool yb1v.f.Fast, .bool yb1v.f.Remote, .int .i64 yb1v.f.Size, .slice aoyb1v_0 yb1v.f.Data.length capyb1v_0] 61, Z440, hle441, hF554.reg, hMx.perm lpr, cu39, cu40, cu41, cu42, cu43, cu44, cu45, kf, (nt hx8), (nt hx9), (nt hx10), (nt hx11), (nt hx12), kf, (fun h _ => nt hx8 h), (nt hx13), (nt hx8)⟩
    ·
     obtain rfl := oj hi
     have hx7 := hpre 7 (by kernel_rfl)
     have hx8 := hSi
     have hx9 := ngF hcl 9 8 hx8
     have hx10 := ngF hcl 10 8 hx8
     have hx11 := ngF hcl 11 8 hx8
     have hx12 := ngF hcl 12 8 hx8
     have hx13 := ngF hcl 13 8 hx8
     obtain rfl := cu46 hx7
     obtain rfl := cr0_0 hx8
     refine hG (any_step ?_); clear hG G; intro A J hJ
     have hle0 := Fz.le.trans hle0 hle441
     have hzst := Fz.le.refl Z440
     have hs556 := hs396.mono hle441
     have hs557 := hs397.mono hle441
     have hs558 := hs398.mono hle441
     have hs559 := hs399.mono hle441
     have hs560 := hs400.mono hle441
     have hs561 := hs401.mono hle441
     have hs562 := hsyb1v_0.mono hle441
     have hs563 := hleJ383.mono hle441
     refine cl hFx 33 #[.pointer (some ⟨b1, 0, none⟩), .int .i64 18] (nog rfl _) rfl (by kernel_rfl) (by kernel_rfl) ?_
     refine (rnumber_funK yb1v 18 hcd8_0 b1 aoyb1v_0 capyb1v_0 _ _ _ _ _ _ hs562 hMx hMx.fz).mono ?_; rintro _ wd564 ⟨ao568, cap569, Z571, rfl, hle572, hs570, hm⟩; refine ⟨_, rfl, ?_⟩; intro a565 hF566; have hM567 := hm; clear hm hMx hFx
     replace hzst := hzst.mono hle572
     replace hs556 := hs556.mono hle572
     replace hs557 := hs557.mono hle572
     replace hs558 := hs558.mono hle572
     replace hs559 := hs559.mono hle572
     replace hs560 := hs560.mono hle572
     replace hs561 := hs561.mono hle572
     replace hs562 := hs562.mono hle572
     replace hs563 := hs563.mono hle572
     replace hle0 := Fz.le.trans hle0 hle572
     have hM573 : Mem B [] w0 Z0 ((.row b1 [str ((((rnumberS yb1v 18).2).Reader).Row), .int .i64 ((((rnumberS yb1v 18).2).Reader).At), .int .i64 ((((rnumberS yb1v 18).2).Reader).Code), .int .u8 (((((rnumberS yb1v 18).2).Reader).c).last), .int .i64 (((((rnumberS yb1v 18).2).Reader).c).n), .int .i64 yb1v.f.ID, .bool yb1v.f.Long, .bool yb1v.f.Fast, .bool yb1v.f.Remote, .int .i64 yb1v.f.Size, .slice ao568 yb1v.f.Data.length cap569] 61) :: Rr) Z571 wd564 := hM567; clear hM567
     refine nl (qnI (hJ _ _ ?_)); clear hJ J
     exact ⟨ao568, cap569, ud39, ud40, ud41, ud42, ud43, ud44, ud45, .pointer (some ⟨b1, 0, none⟩), .int .i64 ((rnumberS yb1v 18).1), ud48, ud49, ud50, ud51, .row b1 [str ((((rnumberS yb1v 18).2).Reader).Row), .int .i64 ((((rnumberS yb1v 18).2).Reader).At), .int .i64 ((((rnumberS yb1v 18).2).Reader).Code), .int .u8 (((((rnumberS yb1v 18).2).Reader).c).last), .int .i64 (((((rnumberS yb1v 18).2).Reader).c).n), .int .i64 yb1v.f.ID, .bool yb1v.f.Long, .bool yb1v.f.Fast, .bool yb1v.f.Remote, .int .i64 yb1v.f.Size, .slice ao568 yb1v.f.Data.length cap569] 61, Z571, hle441.trans hzst, hF566.reg, hM573.perm lpr, cu39, cu40, cu41, cu42, cu43, cu44, cu45, kf, kf, (nt hx9), (nt hx10), (nt hx11), (nt hx12), nu, kf2, (nt hx13), (fun _ => hs570)⟩
    ·
     obtain rfl := oj hi
     have hx8 := hpre 8 (by kernel_rfl)
     have hx6 := hpre 6 (by kernel_rfl)
     have hx7 := hcl 8 7 (by kernel_rfl) hx8
     have hx5 := hcl 6 5 (by kernel_rfl) hx6
     have hx4 := hcl 5 4 (by kernel_rfl) hx5
     have hx3 := hcl 4 3 (by kernel_rfl) hx4
     have hx2 := hcl 3 2 (by kernel_rfl) hx3
     have hx1 := hcl 2 1 (by kernel_rfl) hx2
     have hx9 := hSi
     have hx10 := ngF hcl 10 9 hx9
     have hx11 := ngF hcl 11 9 hx9
     have hx12 := ngF hcl 12 9 hx9
     have hx13 := ngF hcl 13 9 hx9
     obtain rfl := cu40 hx1
     obtain rfl := cu41 hx2
     obtain rfl := cu42 hx3
     obtain rfl := cu43 hx4
     obtain rfl := cu44 hx5
     obtain rfl := cu45 hx6
     obtain rfl := cu46 hx7
     obtain rfl := cu47 hx8
     obtain rfl := cr0_1 hx8 hx13
     refine hG (any_step ?_); clear hG G; intro A J hJ
     have hle0 := Fz.le.trans hle0 hle441
     have hzst := Fz.le.refl Z440
     have hs575 := hs396.mono hle441
     have hs576 := hs397.mono hle441
     have hs577 := hs398.mono hle441
     have hs578 := hs399.mono hle441
     have hs579 := hs400.mono hle441
     have hs580 := hs401.mono hle441
     have hs581 := hsyb1v_0.mono hle441
     have hs582 := hleJ383.mono hle441
     have hs583 := cf0 hx8
     refine s1 hFx 48 (.int .i64 (bOr .i64 (bShl .i64 yb1v.f.ID 18) ((rnumberS yb1v 18).1))) ?_; intro a584 hF585; clear hFx
     refine nl (qnI (hJ _ _ ?_)); clear hJ J
     exact ⟨ao423, cap424, ud39, .pointer (some ⟨b1, 0, none⟩), .pointer (some ⟨b1, 0, none⟩), .pointer (some ⟨b1, 5, none⟩), .pointer (some ⟨b1, 5, none⟩), .int .i64 yb1v.f.ID, .int .i64 (bShl .i64 yb1v.f.ID 18), .pointer (some ⟨b1, 0, none⟩), .int .i64 ((rnumberS yb1v 18).1), .int .i64 (bOr .i64 (bShl .i64 yb1v.f.ID 18) ((rnumberS yb1v 18).1)), ud49, ud50, ud51, .row b1 [str ((((rnumberS yb1v 18).2).Reader).Row), .int .i64 ((((rnumberS yb1v 18).2).Reader).At), .int .i64 ((((rnumberS yb1v 18).2).Reader).Code), .int .u8 (((((rnumberS yb1v 18).2).Reader).c).last), .int .i64 (((((rnumberS yb1v 18).2).Reader).c).n), .int .i64 yb1v.f.ID, .bool yb1v.f.Long, .bool yb1v.f.Fast, .bool yb1v.f.Remote, .int .i64 yb1v.f.Size, .slice ao423 yb1v.f.Data.length cap424] 61, Z440, hle441, hF585.reg, hMx.perm lpr, cu39, kf, kf, kf, kf, kf, kf, kf, kf, kf, (nt hx10), (nt hx11), (nt hx12), (tn hx8), kf2, (nt hx13), (fun _ => hs583)⟩
    ·
     obtain rfl := oj hi
     have hx9 := hpre 9 (by kernel_rfl)
     have hx8 := hpre 8 (by kernel_rfl)
     have hx7 := hpre 7 (by kernel_rfl)
     have hx6 := hpre 6 (by kernel_rfl)
     have hx5 := hpre 5 (by kernel_rfl)
     have hx4 := hpre 4 (by kernel_rfl)
     have hx3 := hpre 3 (by kernel_rfl)
     have hx2 := hpre 2 (by kernel_rfl)
     have hx1 := hpre 1 (by kernel_rfl)
     have hx0 := hpre 0 (by kernel_rfl)
     have hx10 := hSi
     have hx11 := ngF hcl 11 10 hx10
     have hx12 := ngF hcl 12 11 hx11
     have hx13 := ngF hcl 13 12 hx12
     obtain rfl := cu39 hx0
     obtain rfl := cu40 hx1
     obtain rfl := cu41 hx2
     obtain rfl := cu42 hx3
     obtain rfl := cu43 hx4
     obtain rfl := cu44 hx5
     obtain rfl := cu45 hx6
     obtain rfl := cu46 hx7
     obtain rfl := cu47 hx8
     obtain rfl := cu48 hx9
     obtain rfl := cr0_1 hx8 hx13
     refine hG (any_step ?_); clear hG G; intro A J hJ
     have hle0 := Fz.le.trans hle0 hle441
     have hzst := Fz.le.refl Z440
     have hs587 := hs396.mono hle441
     have hs588 := hs397.mono hle441
     have hs589 := hs398.mono hle441
     have hs590 := hs399.mono hle441
     have hs591 := hs400.mono hle441
     have hs592 := hs401.mono hle441
     have hs593 := hsyb1v_0.mono hle441
     have hs594 := hleJ383.mono hle441
     have hs595 := cf0 hx8
     refine s1 hFx 49 (.pointer (some ⟨b1, 0, none⟩)) ?_; intro a596 hF597; clear hFx
     refine nl (qnI (hJ _ _ ?_)); clear hJ J
     exact ⟨ao423, cap424, .pointer (some ⟨b1, 0, none⟩), .pointer (some ⟨b1, 0, none⟩), .pointer (some ⟨b1, 0, none⟩), .pointer (some ⟨b1, 5, none⟩), .pointer (some ⟨b1, 5, none⟩), .int .i64 yb1v.f.ID, .int .i64 (bShl .i64 yb1v.f.ID 18), .pointer (some ⟨b1, 0, none⟩), .int .i64 ((rnumberS yb1v 18).1), .int .i64 (bOr .i64 (bShl .i64 yb1v.f.ID 18) ((rnumberS yb1v 18).1)), .pointer (some ⟨b1, 0, none⟩), ud50, ud51, .row b1 [str ((((rnumberS yb1v 18).2).Reader).Row), .int .i64 ((((rnumberS yb1v 18).2).Reader).At), .int .i64 ((((rnumberS yb1v 18).2).Reader).Code), .int .u8 (((((rnumberS yb1v 18).2).Reader).c).last), .int .i64 (((((rnumberS yb1v 18).2).Reader).c).n), .int .i64 yb1v.f.ID, .bool yb1v.f.Long, .bool yb1v.f.Fast, .bool yb1v.f.Remote, .int .i64 yb1v.f.Size, .slice ao423 yb1v.f.Data.length cap424] 61, Z440, hle441, hF597.reg, hMx.perm lpr, kf, kf, kf, kf, kf, kf, kf, kf, kf, kf, kf, (nt hx11), (nt hx12), (tn hx8), kf2, (nt hx13), (fun _ => hs595)⟩
    ·
     obtain rfl := oj hi
     have hx10 := hpre 10 (by kernel_rfl)
     have hx9 := hpre 9 (by kernel_rfl)
     have hx8 := hpre 8 (by kernel_rfl)
     have hx7 := hpre 7 (by kernel_rfl)
     have hx6 := hpre 6 (by kernel_rfl)
     have hx5 := hpre 5 (by kernel_rfl)
     have hx4 := hpre 4 (by kernel_rfl)
     have hx3 := hpre 3 (by kernel_rfl)
     have hx2 := hpre 2 (by kernel_rfl)
     have hx1 := hpre 1 (by kernel_rfl)
     have hx0 := hpre 0 (by kernel_rfl)
     have hx11 := hSi
     have hx12 := ngF hcl 12 11 hx11
     have hx13 := ngF hcl 13 12 hx12
     obtain rfl := cu39 hx0
     obtain rfl := cu40 hx1
     obtain rfl := cu41 hx2
     obtain rfl := cu42 hx3
     obtain rfl := cu43 hx4
     obtain rfl := cu44 hx5
     obtain rfl := cu45 hx6
     obtain rfl := cu46 hx7
     obtain rfl := cu47 hx8
     obtain rfl := cu48 hx9
     obtain rfl := cu49 hx10
     obtain rfl := cr0_1 hx8 hx13
     refine hG (any_step ?_); clear hG G; intro A J hJ
     have hle0 := Fz.le.trans hle0 hle441
     have hzst := Fz.le.refl Z440
     have hs599 := hs396.mono hle441
     have hs600 := hs397.mono hle441
     have hs601 := hs398.mono hle441
     have hs602 := hs399.mono hle441
     have hs603 := hs400.mono hle441
     have hs604 := hs401.mono hle441
     have hs605 := hsyb1v_0.mono hle441
     have hs606 := hleJ383.mono hle441
     have hs607 := cf0 hx8
     refine s1 hFx 50 (.pointer (some ⟨b1, 5, none⟩)) ?_; intro a608 hF609; clear hFx
     refine nl (qnI (hJ _ _ ?_)); clear hJ J
     exact ⟨ao423, cap424, .pointer (some ⟨b1, 0, none⟩), .pointer (some ⟨b1, 0, none⟩), .pointer (some ⟨b1, 0, none⟩), .pointer (some ⟨b1, 5, none⟩), .pointer (some ⟨b1, 5, none⟩), .int .i64 yb1v.f.ID, .int .i64 (bShl .i64 yb1v.f.ID 18), .pointer (some ⟨b1, 0, none⟩), .int .i64 ((rnumberS yb1v 18).1), .int .i64 (bOr .i64 (bShl .i64 yb1v.f.ID 18) ((rnumberS yb1v 18).1)), .pointer (some ⟨b1, 0, none⟩), .pointer (some ⟨b1, 5, none⟩), ud51, .row b1 [str ((((rnumberS yb1v 18).2).Reader).Row), .int .i64 ((((rnumberS yb1v 18).2).Reader).At), .int .i64 ((((rnumberS yb1v 18).2).Reader).Code), .int .u8 (((((rnumberS yb1v 18).2).Reader).c).last), .int .i64 (((((rnumberS yb1v 18).2).Reader).c).n), .int .i64 yb1v.f.ID, .bool yb1v.f.Long, .bool yb1v.f.Fast, .bool yb1v.f.Remote, .int .i64 yb1v.f.Size, .slice ao423 yb1v.f.Data.length cap424] 61, Z440, hle441, hF609.reg, hMx.perm lpr, kf, kf, kf, kf, kf, kf, kf, kf, kf, kf, kf, kf, (nt hx12), (tn hx8), kf2, (nt hx13), (fun _ => hs607)⟩
    ·
     obtain rfl := oj hi
     have hx11 := hpre 11 (by kernel_rfl)
     have hx9 := hpre 9 (by kernel_rfl)
     have hx8 := hpre 8 (by kernel_rfl)
     have hx7 := hpre 7 (by kernel_rfl)
     have hx6 := hpre 6 (by kernel_rfl)
     have hx5 := hpre 5 (by kernel_rfl)
     have hx4 := hpre 4 (by kernel_rfl)
     have hx3 := hpre 3 (by kernel_rfl)
     have hx2 := hpre 2 (by kernel_rfl)
     have hx1 := hpre 1 (by kernel_rfl)
     have hx0 := hpre 0 (by kernel_rfl)
     have hx10 := hcl 11 10 (by kernel_rfl) hx11
     have hx12 := hSi
     have hx13 := ngF hcl 13 12 hx12
     obtain rfl := cu39 hx0
     obtain rfl := cu40 hx1
     obtain rfl := cu41 hx2
     obtain rfl := cu42 hx3
     obtain rfl := cu43 hx4
     obtain rfl := cu44 hx5
     obtain rfl := cu45 hx6
     obtain rfl := cu46 hx7
     obtain rfl := cu47 hx8
     obtain rfl := cu48 hx9
     obtain rfl := cu49 hx10
     obtain rfl := cu50 hx11
     obtain rfl := cr0_1 hx8 hx13
     refine hG (any_step ?_); clear hG G; intro A J hJ
     have hle0 := Fz.le.trans hle0 hle441
     have hzst := Fz.le.refl Z440
     have hs611 := hs396.mono hle441
     have hs612 := hs397.mono hle441
     have hs613 := hs398.mono hle441
     have hs614 := hs399.mono hle441
     have hs615 := hs400.mono hle441
     have hs616 := hs401.mono hle441
     have hs617 := hsyb1v_0.mono hle441
     have hs618 := hleJ383.mono hle441
     have hs619 := cf0 hx8
     refine s1 hFx 51 (.pointer (some ⟨b1, 5, none⟩)) ?_; intro a620 hF621; clear hFx
     refine nl (qnI (hJ _ _ ?_)); clear hJ J
     exact ⟨ao423, cap424, .pointer (some ⟨b1, 0, none⟩), .pointer (some ⟨b1, 0, none⟩), .pointer (some ⟨b1, 0, none⟩), .pointer (some ⟨b1, 5, none⟩), .pointer (some ⟨b1, 5, none⟩), .int .i64 yb1v.f.ID, .int .i64 (bShl .i64 yb1v.f.ID 18), .pointer (some ⟨b1, 0, none⟩), .int .i64 ((rnumberS yb1v 18).1), .int .i64 (bOr .i64 (bShl .i64 yb1v.f.ID 18) ((rnumberS yb1v 18).1)), .pointer (some ⟨b1, 0, none⟩), .pointer (some ⟨b1, 5, none⟩), .pointer (some ⟨b1, 5, none⟩), .row b1 [str ((((rnumberS yb1v 18).2).Reader).Row), .int .i64 ((((rnumberS yb1v 18).2).Reader).At), .int .i64 ((((rnumberS yb1v 18).2).Reader).Code), .int .u8 (((((rnumberS yb1v 18).2).Reader).c).last), .int .i64 (((((rnumberS yb1v 18).2).Reader).c).n), .int .i64 yb1v.f.ID, .bool yb1v.f.Long, .bool yb1v.f.Fast, .bool yb1v.f.Remote, .int .i64 yb1v.f.Size, .slice ao423 yb1v.f.Data.length cap424] 61, Z440, hle441, hF621.reg, hMx.perm lpr, kf, kf, kf, kf, kf, kf, kf, kf, kf, kf, kf, kf, kf, (tn hx8), kf2, (nt hx13), (fun _ => hs619)⟩
    ·
     obtain rfl := oj hi
     have hx12 := hpre 12 (by kernel_rfl)
     have hx9 := hpre 9 (by kernel_rfl)
     have hx8 := hpre 8 (by kernel_rfl)
     have hx7 := hpre 7 (by kernel_rfl)
     have hx6 := hpre 6 (by kernel_rfl)
     have hx5 := hpre 5 (by kernel_rfl)
     have hx4 := hpre 4 (by kernel_rfl)
     have hx3 := hpre 3 (by kernel_rfl)
     have hx2 := hpre 2 (by kernel_rfl)
     have hx1 := hpre 1 (by kernel_rfl)
     have hx0 := hpre 0 (by kernel_rfl)
     have hx11 := hcl 12 11 (by kernel_rfl) hx12
     have hx10 := hcl 11 10 (by kernel_rfl) hx11
     have hx13 := hSi
     obtain rfl := cu39 hx0
     obtain rfl := cu40 hx1
     obtain rfl := cu41 hx2
     obtain rfl := cu42 hx3
     obtain rfl := cu43 hx4
     obtain rfl := cu44 hx5
     obtain rfl := cu45 hx6
     obtain rfl := cu46 hx7
     obtain rfl := cu47 hx8
     obtain rfl := cu48 hx9
     obtain rfl := cu49 hx10
     obtain rfl := cu50 hx11
     obtain rfl := cu51 hx12
     obtain rfl := cr0_1 hx8 hx13
     refine hG (any_step ?_); clear hG G; intro A J hJ
     have hle0 := Fz.le.trans hle0 hle441
     have hzst := Fz.le.refl Z440
     have hs623 := hs396.mono hle441
     have hs624 := hs397.mono hle441
     have hs625 := hs398.mono hle441
     have hs626 := hs399.mono hle441
     have hs627 := hs400.mono hle441
     have hs628 := hs401.mono hle441
     have hs629 := hsyb1v_0.mono hle441
     have hs630 := hleJ383.mono hle441
     have hs631 := cf0 hx8
     refine sr hFx hMx 0 [str ((((rnumberS yb1v 18).2).Reader).Row), .int .i64 ((((rnumberS yb1v 18).2).Reader).At), .int .i64 ((((rnumberS yb1v 18).2).Reader).Code), .int .u8 (((((rnumberS yb1v 18).2).Reader).c).last), .int .i64 (((((rnumberS yb1v 18).2).Reader).c).n), .int .i64 (bOr .i64 (bShl .i64 yb1v.f.ID 18) ((rnumberS yb1v 18).1)), .bool yb1v.f.Long, .bool yb1v.f.Fast, .bool yb1v.f.Remote, .int .i64 yb1v.f.Size, .slice ao423 yb1v.f.Data.length cap424] (b := b1) (off := 5) (cs := [str ((((rnumberS yb1v 18).2).Reader).Row), .int .i64 ((((rnumberS yb1v 18).2).Reader).At), .int .i64 ((((rnumberS yb1v 18).2).Reader).Code), .int .u8 (((((rnumberS yb1v 18).2).Reader).c).last), .int .i64 (((((rnumberS yb1v 18).2).Reader).c).n), .int .i64 yb1v.f.ID, .bool yb1v.f.Long, .bool yb1v.f.Fast, .bool yb1v.f.Remote, .int .i64 yb1v.f.Size, .slice ao423 yb1v.f.Data.length cap424]) (ty := 61) (u := .int .i64 (bOr .i64 (bShl .i64 yb1v.f.ID 18) ((rnumberS yb1v 18).1))) (nog rfl _) rfl rfl (by kernel_rfl) (by kernel_rfl) (by kernel_rfl) (by kernel_rfl) (by kernel_rfl) (by kernel_rfl) (by kernel_rfl) ?_; intro wd632 hM633; clear hMx
     refine nl (qnI (hJ _ _ ?_)); clear hJ J
     exact ⟨ao423, cap424, .pointer (some ⟨b1, 0, none⟩), .pointer (some ⟨b1, 0, none⟩), .pointer (some ⟨b1, 0, none⟩), .pointer (some ⟨b1, 5, none⟩), .pointer (some ⟨b1, 5, none⟩), .int .i64 yb1v.f.ID, .int .i64 (bShl .i64 yb1v.f.ID 18), .pointer (some ⟨b1, 0, none⟩), .int .i64 ((rnumberS yb1v 18).1), .int .i64 (bOr .i64 (bShl .i64 yb1v.f.ID 18) ((rnumberS yb1v 18).1)), .pointer (some ⟨b1, 0, none⟩), .pointer (some ⟨b1, 5, none⟩), .pointer (some ⟨b1, 5, none⟩), .row b1 [str ((((rnumberS yb1v 18).2).Reader).Row), .int .i64 ((((rnumberS yb1v 18).2).Reader).At), .int .i64 ((((rnumberS yb1v 18).2).Reader).Code), .int .u8 (((((rnumberS yb1v 18).2).Reader).c).last), .int .i64 (((((rnumberS yb1v 18).2).Reader).c).n), .int .i64 (bOr .i64 (bShl .i64 yb1v.f.ID 18) ((rnumberS yb1v 18).1)), .bool yb1v.f.Long, .bool yb1v.f.Fast, .bool yb1v.f.Remote, .int .i64 yb1v.f.Size, .slice ao423 yb1v.f.Data.length cap424] 61, Z440, hle441, hFx.reg, hM633.perm lpr, kf, kf, kf, kf, kf, kf, kf, kf, kf, kf, kf, kf, kf, (tn hx8), (fun _ => nu), kf, (fun _ => hs631)⟩
   case hE =>
    intro S hS a635 wd636 hI; refine Go.Sy.hid ?_; intro G hG; obtain ⟨ao423, cap424, ud39, ud40, ud41, ud42, ud43, ud44, ud45, ud46, ud47, ud48, ud49, ud50, ud51, rh0, Z440, hle441, hFx, hMx, cu39, cu40, cu41, cu42, cu43, cu44, cu45, cu46, cu47, cu48, cu49, cu50, cu51, cr0_0, cr0_1, cr0_2, hI⟩ := hI; have cf0 := hI; clear hI; refine hG ?_; clear hG G
    obtain rfl := cu39 (hS 0 (by decide))
    obtain rfl := cu40 (hS 1 (by decide))
    obtain rfl := cu41 (hS 2 (by decide))
    obtain rfl := cu42 (hS 3 (by decide))
    obtain rfl := cu43 (hS 4 (by decide))
    obtain rfl := cu44 (hS 5 (by decide))
    obtain rfl := cu45 (hS 6 (by decide))
    obtain rfl := cu46 (hS 7 (by decide))
    obtain rfl := cu47 (hS 8 (by decide))
    obtain rfl := cu48 (hS 9 (by decide))
    obtain rfl := cu49 (hS 10 (by decide))
    obtain rfl := cu50 (hS 11 (by decide))
    obtain rfl := cu51 (hS 12 (by decide))
    obtain rfl := cr0_2 (hS 13 (by decide))
    have hle0 := Fz.le.trans hle0 hle441
    have hs637 := hs396.mono hle441
    have hs638 := hs397.mono hle441
    have hs639 := hs398.mono hle441
    have hs640 := hs399.mono hle441
    have hs641 := hs400.mono hle441
    have hs642 := hs401.mono hle441
    have hs643 := hsyb1v_0.mono hle441
    have hs644 := hleJ383.mono hle441
    have hs645 := cf0 (hS 8 (by decide))
    refine thn ?_
    have hF646 : Fr 97 [] [⟨0, [], .pointer (some ⟨b1, 0, none⟩)⟩] a635 := hFx.reg; clear hFx
    refine rgH ?_; intro hQ647Q hQ647
    refine s1 hF646 52 (.pointer (some ⟨b1, 0, none⟩)) ?_; intro a648 hF649; clear hF646
    refine s1 hF649 53 (.pointer (some ⟨b1, 0, none⟩)) ?_; intro a650 hF651; clear hF649
    refine s1 hF651 54 (.pointer (some ⟨b1, 0, none⟩)) ?_; intro a652 hF653; clear hF651
    refine s1 hF653 55 (.pointer (some ⟨b1, 0, none⟩)) ?_; intro a654 hF655; clear hF653
    have hc656 := hp439.1; have hp657 := hp439.2; clear hp439
    refine cl hF655 36 #[.pointer (some ⟨b1, 0, none⟩), .int .i64 1] (nog rfl _) rfl (by kernel_rfl) (by kernel_rfl) ?_
    obtain ⟨r662, hr663⟩ : ∃ x, (rtakeFS (⟨(((rnumberS yb1v 18).2).Reader), (⟨bOr .i64 (bShl .i64 yb1v.f.ID 18) ((rnumberS yb1v 18).1), yb1v.f.Long, yb1v.f.Fast, yb1v.f.Remote, yb1v.f.Size, yb1v.f.Data⟩ : Frame)⟩ : FReader) 1) = x := ⟨_, rfl⟩; have hp664 := hp657 r662 hr663; clear hp657
    have h9 := rtakeF_fun (⟨(((rnumberS yb1v 18).2).Reader), (⟨bOr .i64 (bShl .i64 yb1v.f.ID 18) ((rnumberS yb1v 18).1), yb1v.f.Long, yb1v.f.Fast, yb1v.f.Remote, yb1v.f.Size, yb1v.f.Data⟩ : Frame)⟩ : FReader) 1 hc656 b1 ao423 cap424 _ _ _ _ _ _ hs645 hMx hMx.fz; rw [hr663] at h9; refine h9.mono ?_; clear h9; rintro _ wd658 ⟨ao666, cap667, Z669, rfl, hle670, hs668, hm⟩; refine ⟨_, rfl, ?_⟩; intro a659 hF660; have hM661 := hm; clear hm hMx hF655
    replace hs637 := hs637.mono hle670
    replace hs638 := hs638.mono hle670
    replace hs639 := hs639.mono hle670
    replace hs640 := hs640.mono hle670
    replace hs641 := hs641.mono hle670
    replace hs642 := hs642.mono hle670
    replace hs643 := hs643.mono hle670
    replace hs644 := hs644.mono hle670
    replace hs645 := hs645.mono hle670
    replace hle0 := Fz.le.trans hle0 hle670
    have hM671 : Mem B [] w0 Z0 ((.row b1 [str r662.2.Reader.Row, .int .i64 r662.2.Reader.At, .int .i64 r662.2.Reader.Code, .int .u8 r662.2.Reader.c.last, .int .i64 r662.2.Reader.c.n, .int .i64 r662.2.f.ID, .bool r662.2.f.Long, .bool r662.2.f.Fast, .bool r662.2.f.Remote, .int .i64 r662.2.f.Size, .slice ao666 r662.2.f.Data.length cap667] 61) :: Rr) Z669 wd658 := hM661; clear hM661
    have hp672 := hp664 (hs668.small); clear hp664
    refine st hF660 (.bool (r662.1 == ([49] : List UInt8))) (nog rfl _) rfl (by kernel_rfl) (strcmp_run hF660 (g := []) (op := .eql) rfl (by kernel_rfl) (by kernel_rfl) (by decide) rfl) ?_; intro a673 hF674; clear hF660
    refine s1 hF674 58 (.pointer (some ⟨b1, 0, none⟩)) ?_; intro a675 hF676; clear hF674
    refine s1 hF676 59 (.pointer (some ⟨b1, 5, none⟩)) ?_; intro a677 hF678; clear hF676
    refine s1 hF678 60 (.pointer (some ⟨b1, 8, none⟩)) ?_; intro a679 hF680; clear hF678
    refine sr hF680 hM671 0 [str r662.2.Reader.Row, .int .i64 r662.2.Reader.At, .int .i64 r662.2.Reader.Code, .int .u8 r662.2.Reader.c.last, .int .i64 r662.2.Reader.c.n, .int .i64 r662.2.f.ID, .bool r662.2.f.Long, .bool r662.2.f.Fast, .bool (r662.1 == ([49] : List UInt8)), .int .i64 r662.2.f.Size, .slice ao666 r662.2.f.Data.length cap667] (b := b1) (off := 8) (cs := [str r662.2.Reader.Row, .int .i64 r662.2.Reader.At, .int .i64 r662.2.Reader.Code, .int .u8 r662.2.Reader.c.last, .int .i64 r662.2.Reader.c.n, .int .i64 r662.2.f.ID, .bool r662.2.f.Long, .bool r662.2.f.Fast, .bool r662.2.f.Remote, .int .i64 r662.2.f.Size, .slice ao666 r662.2.f.Data.length cap667]) (ty := 61) (u := .bool (r662.1 == ([49] : List UInt8))) (nog rfl _) rfl rfl (by kernel_rfl) (by kernel_rfl) (by kernel_rfl) (by kernel_rfl) (by kernel_rfl) (by kernel_rfl) (by kernel_rfl) ?_; intro wd681 hM682; clear hM671
    have hM683 : Mem B [] w0 Z0 ((.row b1 [str r662.2.Reader.Row, .int .i64 r662.2.Reader.At, .int .i64 r662.2.Reader.Code, .int .u8 r662.2.Reader.c.last, .int .i64 r662.2.Reader.c.n, .int .i64 r662.2.f.ID, .bool r662.2.f.Long, .bool r662.2.f.Fast, .bool (r662.1 == ([49] : List UInt8)), .int .i64 r662.2.f.Size, .slice ao666 r662.2.f.Data.length cap667] 61) :: Rr) Z669 wd681 := hM682; clear hM682
    refine nlH (hQ647 _ _ ?_); clear hQ647 hQ647Q
    refine rd ?_
    exact hJ156 (⟨r662.2.Reader, (⟨r662.2.f.ID, r662.2.f.Long, r662.2.f.Fast, r662.1 == ([49] : List UInt8), r662.2.f.Size, r662.2.f.Data⟩ : Frame)⟩ : FReader) ao666 cap667 Z669 ⟨hp672, hs668, hs642⟩ _ _ ((hF680.reg).anyβ _ (by kernel_rfl)) (hM683.keep (List.Sublist.cons_cons _ (List.Sublist.refl _)))
  have hle684 := Fz.le.refl Z108
  refine cd hF384 (t := !(r70.1 == ([49] : List UInt8))) (by kernel_rfl) (fun hb685 => ?_) (fun hb685 => ?_)
  ·
   have hp686 := hp385.1 hb685; clear hp385
   refine rgH ?_; intro hQ687Q hQ687
   refine s1 hF384 37 (.pointer (some ⟨b1, 0, none⟩)) ?_; intro a688 hF689; clear hF384
   refine cl hF689 34 #[.pointer (some ⟨b1, 0, none⟩), .int .i64 4] (nog rfl _) rfl (by kernel_rfl) (by kernel_rfl) ?_
   obtain ⟨r694, hr695⟩ : ∃ x, (rfailS (⟨r101.2.Reader, (⟨r101.2.f.ID, r101.1 == ([49] : List UInt8), r101.2.f.Fast, r70.1 == ([49] : List UInt8), r101.2.f.Size, r101.2.f.Data⟩ : Frame)⟩ : FReader) 4) = x := ⟨_, rfl⟩; have hp696 := hp686 r694 hr695; clear hp686
   have h9 := rfail_fun (⟨r101.2.Reader, (⟨r101.2.f.ID, r101.1 == ([49] : List UInt8), r101.2.f.Fast, r70.1 == ([49] : List UInt8), r101.2.f.Size, r101.2.f.Data⟩ : Frame)⟩ : FReader) 4 b1 ao105 cap106 _ _ _ _ _ _ hs107 hM136 hM136.fz; rw [hr695] at h9; refine h9.mono ?_; clear h9; rintro _ wd690 ⟨ao698, cap699, Z701, rfl, hle702, hs700, hm⟩; refine ⟨_, rfl, ?_⟩; intro a691 hF692; have hM693 := hm; clear hm hM136 hF689
   replace hs4 := hs4.mono hle702
   replace hs21 := hs21.mono hle702
   replace hs43 := hs43.mono hle702
   replace hs76 := hs76.mono hle702
   replace hs107 := hs107.mono hle702
   replace hle374 := hle374.mono hle702
   replace hle684 := hle684.mono hle702
   replace hle0 := Fz.le.trans hle0 hle702
   have hM703 : Mem B [] w0 Z0 ((.row b1 [str r694.Reader.Row, .int .i64 r694.Reader.At, .int .i64 r694.Reader.Code, .int .u8 r694.Reader.c.last, .int .i64 r694.Reader.c.n, .int .i64 r694.f.ID, .bool r694.f.Long, .bool r694.f.Fast, .bool r694.f.Remote, .int .i64 r694.f.Size, .slice ao698 r694.f.Data.length cap699] 61) :: Rr) Z701 wd690 := hM693; clear hM693
   have hp704 := hp696 (hs700.small); clear hp696
   refine nlH (hQ687 _ _ ?_); clear hQ687 hQ687Q
   refine rd ?_
   exact hJ389 r694 ao698 cap699 Z701 ⟨hp704, hs700, hle684⟩ _ _ ((hF692.reg).anyβ _ (by kernel_rfl)) (hM703.keep (List.Sublist.cons_cons _ (List.Sublist.refl _)))
  ·
   have hp705 := hp385.2 hb685; clear hp385
   refine wp_skip ?_
   refine rd ?_
   exact hJ389 (⟨r101.2.Reader, (⟨r101.2.f.ID, r101.1 == ([49] : List UInt8), r101.2.f.Fast, r70.1 == ([49] : List UInt8), r101.2.f.Size, r101.2.f.Data⟩ : Frame)⟩ : FReader) ao105 cap106 Z108 ⟨hp705, hs107, hle684⟩ _ _ ((hF384.reg).anyβ _ (by kernel_rfl)) (hM136.keep (List.Sublist.cons_cons _ (List.Sublist.refl _)))
 ·
  have hp706 := hp152.2 hb375; clear hp152
  refine wp_skip ?_
  refine rd ?_
  exact hJ156 (⟨r101.2.Reader, (⟨r101.2.f.ID, r101.1 == ([49] : List UInt8), r101.2.f.Fast, r70.1 == ([49] : List UInt8), r101.2.f.Size, r101.2.f.Data⟩ : Frame)⟩ : FReader) ao105 cap106 Z108 ⟨hp706, hs107, hle374⟩ _ _ ((hF151.reg).anyβ _ (by kernel_rfl)) (hM136.keep (List.Sublist.cons_cons _ (List.Sublist.refl _)))

end Go.Proofs.YtmbdcehmeiiaoaaGreatDoor
