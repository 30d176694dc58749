/- The walks, made by program: each call does what its pure predicate says. -/
import Derived.Test.YtinegicenfndkaaDoorPE
import Derived.Test.YtinegicenfndkaaDoorWD
import Derived.Shelf.Strings.Search3
import Derived.Lib.IndexAny
namespace Go.Proofs
open Go.Shelf
def Tryd.lays144_ren : Go.Shelf.Ren := ⟨fun | 144 => 16 | 143 => 52 | 219 => 87 | 217 => 117 | 225 => 118 | 224 => 119 | 267 => 120 | 266 => 138 | 314 => 139 | n => n, fun | 9 => 9 | 4 => 4 | 3 => 3 | 5 => 5 | 46 => 86 | 146 => 161 | 51 => 130 | n => n, fun | 1 => 0 | n => n⟩
theorem Tryd.lays144 : Go.Proofs.Lays.n144 Tryd.prog Tryd.lays144_ren := {
  mixed := by kernel_rfl
  f143 := Tryd.func52.trans (congrArg some (by kernel_rfl))
  f144 := Tryd.func16.trans (congrArg some (by kernel_rfl))
  f217 := Tryd.func117.trans (congrArg some (by kernel_rfl))
  f219 := Tryd.func87.trans (congrArg some (by kernel_rfl))
  f224 := Tryd.func119.trans (congrArg some (by kernel_rfl))
  f225 := Tryd.func118.trans (congrArg some (by kernel_rfl))
  f266 := Tryd.func138.trans (congrArg some (by kernel_rfl))
  f267 := Tryd.func120.trans (congrArg some (by kernel_rfl))
  f314 := Tryd.func139.trans (congrArg some (by kernel_rfl))
  t3 := Tryd.underlying3
  a3 := Tryd.isAgg3
  z3 := Tryd.sizeOf3
  v3 := Tryd.zeroValue3
  t4 := Tryd.underlying4
  a4 := Tryd.isAgg4
  z4 := Tryd.sizeOf4
  v4 := Tryd.zeroValue4
  t5 := Tryd.underlying5
  a5 := Tryd.isAgg5
  z5 := Tryd.sizeOf5
  v5 := Tryd.zeroValue5
  t9 := Tryd.underlying9
  a9 := Tryd.isAgg9
  z9 := Tryd.sizeOf9
  v9 := Tryd.zeroValue9
  t46 := Tryd.underlying86
  a46 := Tryd.isAgg86
  z46 := Tryd.sizeOf86
  v46 := Tryd.zeroValue86
  t51 := Tryd.underlying130
  a51 := Tryd.isAgg130
  z51 := Tryd.sizeOf130
  v51 := Tryd.zeroValue130
  t146 := Tryd.underlying161
  a146 := Tryd.isAgg161
  z146 := Tryd.sizeOf161
  v146 := Tryd.zeroValue161
  g1 := by kernel_rfl }
end Go.Proofs
set_option linter.unusedVariables false
set_option linter.unusedSimpArgs false
namespace Go.Proofs.YtinegicenfndkaaDoor
open Go.Sy Go.RowKit
theorem contains_fun (u0 : List UInt8) (u1 : List UInt8) (hpre : u1.length = 1) (Z : Fz) (w : World) (hZ : Z.on w) : Calls Tryd.prog 16 #[str u0, str u1] w fun e w' => e = .returned (.bool (contS u0 u1)) ∧ Below w.heap.size w w' := by
  obtain ⟨c, rfl⟩ : ∃ c, u1 = [c] := by
    match u1, hpre with
    | [c], _ => exact ⟨c, rfl⟩
  exact (Any.strings_Contains_one Tryd.lays144 ⟨⟨u0⟩⟩ c w).mono fun _ _ ⟨h1, h2⟩ => ⟨by rw [h1]; show _ = Ending.returned (.bool (u0.contains c)); rw [Lib.contains_iff_indexByte], h2 ▸ Below.refl _ _⟩

set_option maxRecDepth 100000 in
set_option maxHeartbeats 0 in
theorem LSees_walk (u0 : Int) (u1 : List UInt8) (u2 : Int) (u3 : List UInt8)  (Z : Fz) (w : World)  (hZ : Z.on w) {K : Bool → Prop} (hp : LSees_vc u0 u1 u2 u3 K) : Calls Tryd.prog 4 #[.int .i64 u0, str u1, .int .i64 u2, str u3] w fun e w' => ∃ r : Bool, e = .returned (.bool r) ∧ K r ∧ Below w.heap.size w w' := by
 refine enter0 Tryd.func4 rfl rfl (by kernel_rfl) ?_; intro a0 hF0; have hM0 := Mem.start w Z hZ; have hle0 := Fz.le.refl Z
 refine sqH ?_; intro hQ1Q hQ1
 refine s1 hF0 8 (.bool false) ?_; intro a2 hF3; clear hF0
 refine nlH (hQ1 _ _ ?_); clear hQ1 hQ1Q
 refine sqH ?_; intro hQ4Q hQ4
 refine s1 hF3 18 (.int .i64 u0) ?_; intro a5 hF6; clear hF3
 refine s1 hF6 19 (str u1) ?_; intro a7 hF8; clear hF6
 refine fcl hF8 hM0 (.tuple #[str ((csumS u0 u1).1), .int .i64 ((csumS u0 u1).2)]) 11 #[.int .i64 u0, str u1] (nog rfl _) rfl (by kernel_rfl) (fun _ => by kernel_rfl) (csum_fun u0 u1 _ _ hM0.fz) ?_; intro a9 wd11 hF10 hM12; clear hF8 hM0
 refine s1 hF10 17 (.tuple #[str ((csumS u0 u1).1), .int .i64 ((csumS u0 u1).2)]) ?_; intro a13 hF14; clear hF10
 refine s1 hF14 21 (str ((csumS u0 u1).1)) ?_; intro a15 hF16; clear hF14
 refine s1 hF16 22 (.int .i64 ((csumS u0 u1).2)) ?_; intro a17 hF18; clear hF16
 refine s1 hF18 9 (str ((csumS u0 u1).1)) ?_; intro a19 hF20; clear hF18
 refine s1 hF20 10 (.int .i64 ((csumS u0 u1).2)) ?_; intro a21 hF22; clear hF20
 refine nlH (hQ4 _ _ ?_); clear hQ4 hQ4Q
 refine sqH ?_; intro hQ23Q hQ23
 refine s1 hF22 24 (.int .i64 u0) ?_; intro a24 hF25; clear hF22
 refine fcl hF25 hM12 (.tuple #[.int .i64 ((csize u0).1), .int .i64 ((csize u0).2)]) 14 #[.int .i64 u0] (nog rfl _) rfl (by kernel_rfl) (fun _ => by kernel_rfl) (csize_fun u0 _ _ hM12.fz) ?_; intro a26 wd28 hF27 hM29; clear hF25 hM12
 refine s1 hF27 23 (.tuple #[.int .i64 ((csize u0).1), .int .i64 ((csize u0).2)]) ?_; intro a30 hF31; clear hF27
 refine s1 hF31 26 (.int .i64 ((csize u0).1)) ?_; intro a32 hF33; clear hF31
 refine s1 hF33 27 (.int .i64 ((csize u0).2)) ?_; intro a34 hF35; clear hF33
 refine s1 hF35 11 (.int .i64 ((csize u0).1)) ?_; intro a36 hF37; clear hF35
 refine s1 hF37 12 (.int .i64 ((csize u0).2)) ?_; intro a38 hF39; clear hF37
 refine nlH (hQ23 _ _ ?_); clear hQ23 hQ23Q
 refine wp_seq ?_
 have hF40 : Fr 127 [] [⟨0, [], .int .i64 u0⟩, ⟨1, [], str u1⟩, ⟨2, [], .int .i64 u2⟩, ⟨3, [], str u3⟩, ⟨9, [], str ((csumS u0 u1).1)⟩, ⟨10, [], .int .i64 ((csumS u0 u1).2)⟩, ⟨11, [], .int .i64 ((csize u0).1)⟩, ⟨12, [], .int .i64 ((csize u0).2)⟩] a38 := hF39.region (by kernel_rfl) (by kernel_rfl); clear hF39
 refine sqH ?_; intro hQ41Q hQ41
 refine fcl hF40 hM29 (.bool true) 12 #[] (nog rfl _) rfl (by kernel_rfl) (fun _ => by kernel_rfl) (summed_fun  _ _ hM29.fz) ?_; intro a42 wd44 hF43 hM45; clear hF40 hM29
 refine s1 hF43 29 (.bool false) ?_; intro a46 hF47; clear hF43
 refine s1 hF47 30 (.bool false) ?_; intro a48 hF49; clear hF47
 refine st hF49 (.int .i64 ((csumS u0 u1).2)) (by rw [wanted_of hF49 (b := false) rfl rfl (by kernel_rfl) (by kernel_rfl)]; rfl) rfl (by kernel_rfl) (p0 hF49 (by kernel_rfl)) ?_; intro a50 hF51; clear hF49
 refine st hF51 (.bool (((csumS u0 u1).2) != 0)) (by rw [wanted_of hF51 (b := false) rfl rfl (by kernel_rfl) (by kernel_rfl)]; rfl) rfl (by kernel_rfl) (p0 hF51 (by kernel_rfl)) ?_; intro a52 hF53; clear hF51
 refine s1 hF53 33 (.bool (((csumS u0 u1).2) != 0)) ?_; intro a54 hF55; clear hF53
 refine s1 hF55 34 (.bool (((csumS u0 u1).2) != 0)) ?_; intro a56 hF57; clear hF55
 have hF58 := hF57.atom ((((csumS u0 u1).2) != 0) == false) (by kernel_rfl); clear hF57
 refine gp hF58 35 0 [] (((csumS u0 u1).2) != 0) (.int .i64 ((csize u0).2)) rfl rfl ?_; intro a59 hF60; clear hF58
 refine gp hF60 36 0 [] (((csumS u0 u1).2) != 0) (.bool (((csize u0).2) != 0)) rfl rfl ?_; intro a61 hF62; clear hF60
 refine st hF62 (.bool ((((csumS u0 u1).2) != 0) || (((csize u0).2) != 0))) (nog rfl _) rfl (by kernel_rfl) (pk_or hF62 (g := []) (m := 0) (b := ((csumS u0 u1).2) != 0) (v := ((csize u0).2) != 0) rfl (by kernel_rfl) (by kernel_rfl) (by kernel_rfl) rfl) ?_; intro a63 hF64; clear hF62
 refine s1 hF64 38 (.bool ((((csumS u0 u1).2) != 0) || (((csize u0).2) != 0))) ?_; intro a65 hF66; clear hF64
 have hF67 := hF66.atom (((((csumS u0 u1).2) != 0) || (((csize u0).2) != 0)) == false) (by kernel_rfl); clear hF66
 refine gp hF67 39 1 [] ((((csumS u0 u1).2) != 0) || (((csize u0).2) != 0)) (str u3) rfl rfl ?_; intro a68 hF69; clear hF67
 refine gcl hF69 hM45 (.int .i64 (bcheckS u3)) 15 #[str u3] (m := 1) (cj := []) (bj := (((csumS u0 u1).2) != 0) || (((csize u0).2) != 0)) rfl rfl (by kernel_rfl) rfl (by kernel_rfl) (by kernel_rfl) (by kernel_rfl) (fun _ => by kernel_rfl) (fun hg => bcheck_fun u3 _ _ hM45.fz) ?_; intro a70 wd72 hF71 hM73; clear hF69 hM45
 refine gp hF71 41 1 [] ((((csumS u0 u1).2) != 0) || (((csize u0).2) != 0)) (.bool ((bcheckS u3) != 0)) rfl rfl ?_; intro a74 hF75; clear hF71
 refine st hF75 (.bool (((((csumS u0 u1).2) != 0) || (((csize u0).2) != 0)) || ((bcheckS u3) != 0))) (nog rfl _) rfl (by kernel_rfl) (pk_or hF75 (g := []) (m := 1) (b := (((csumS u0 u1).2) != 0) || (((csize u0).2) != 0)) (v := (bcheckS u3) != 0) rfl (by kernel_rfl) (by kernel_rfl) (by kernel_rfl) rfl) ?_; intro a76 hF77; clear hF75
 refine s1 hF77 43 (.bool (((((csumS u0 u1).2) != 0) || (((csize u0).2) != 0)) || ((bcheckS u3) != 0))) ?_; intro a78 hF79; clear hF77
 have hF80 := hF79.atom ((((((csumS u0 u1).2) != 0) || (((csize u0).2) != 0)) || ((bcheckS u3) != 0)) == false) (by kernel_rfl); clear hF79
 refine gp hF80 44 2 [] (((((csumS u0 u1).2) != 0) || (((csize u0).2) != 0)) || ((bcheckS u3) != 0)) (str u3) rfl rfl ?_; intro a81 hF82; clear hF80
 rcases Bool.eq_false_or_eq_true (((((csumS u0 u1).2) != 0) || (((csize u0).2) != 0)) || ((bcheckS u3) != 0)) with hb83 | hb83
 · -- true
  have hp84 := hp.1 hb83; clear hp
  have hF85 := hF82.reval (d := 43) (c := []) (v := .bool (((((csumS u0 u1).2) != 0) || (((csize u0).2) != 0)) || ((bcheckS u3) != 0))) (by kernel_rfl) (.bool true) (by rw [hb83]); clear hF82
  have hF86 := hF85.setc (d := 44) (c := [2]) (v := str u3) (by kernel_rfl) (v' := undef) (by rw [hb83]; kernel_rfl); clear hF85
  refine sk hF86 (b := true) rfl rfl (by kernel_rfl) (by kernel_rfl) rfl rfl (by kernel_rfl) ?_; intro a87 hF88; clear hF86
  refine sk hF88 (b := true) rfl rfl (by kernel_rfl) (by kernel_rfl) rfl rfl (by kernel_rfl) ?_; intro a89 hF90; clear hF88
  refine s1 hF90 47 (.bool true) ?_; intro a91 hF92; clear hF90
  refine s1 hF92 48 (.bool true) ?_; intro a93 hF94; clear hF92
  refine sk hF94 (b := true) rfl rfl (by kernel_rfl) (by kernel_rfl) rfl rfl (by kernel_rfl) ?_; intro a95 hF96; clear hF94
  refine sk hF96 (b := true) rfl rfl (by kernel_rfl) (by kernel_rfl) rfl rfl (by kernel_rfl) ?_; intro a97 hF98; clear hF96
  refine sk hF98 (b := true) rfl rfl (by kernel_rfl) (by kernel_rfl) rfl rfl (by kernel_rfl) ?_; intro a99 hF100; clear hF98
  refine sk hF100 (b := true) rfl rfl (by kernel_rfl) (by kernel_rfl) rfl rfl (by kernel_rfl) ?_; intro a101 hF102; clear hF100
  refine s1 hF102 53 (.bool true) ?_; intro a103 hF104; clear hF102
  refine s1 hF104 54 (.bool true) ?_; intro a105 hF106; clear hF104
  refine sk hF106 (b := true) rfl rfl (by kernel_rfl) (by kernel_rfl) rfl rfl (by kernel_rfl) ?_; intro a107 hF108; clear hF106
  refine sk hF108 (b := true) rfl rfl (by kernel_rfl) (by kernel_rfl) rfl rfl (by kernel_rfl) ?_; intro a109 hF110; clear hF108
  refine sk hF110 (b := true) rfl rfl (by kernel_rfl) (by kernel_rfl) rfl rfl (by kernel_rfl) ?_; intro a111 hF112; clear hF110
  refine sk hF112 (b := true) rfl rfl (by kernel_rfl) (by kernel_rfl) rfl rfl (by kernel_rfl) ?_; intro a113 hF114; clear hF112
  refine sk hF114 (b := true) rfl rfl (by kernel_rfl) (by kernel_rfl) rfl rfl (by kernel_rfl) ?_; intro a115 hF116; clear hF114
  refine s1 hF116 60 (.bool true) ?_; intro a117 hF118; clear hF116
  refine s1 hF118 61 (.bool true) ?_; intro a119 hF120; clear hF118
  refine sk hF120 (b := true) rfl rfl (by kernel_rfl) (by kernel_rfl) rfl rfl (by kernel_rfl) ?_; intro a121 hF122; clear hF120
  refine sk hF122 (b := true) rfl rfl (by kernel_rfl) (by kernel_rfl) rfl rfl (by kernel_rfl) ?_; intro a123 hF124; clear hF122
  refine s1 hF124 64 (.bool true) ?_; intro a125 hF126; clear hF124
  refine s1 hF126 65 (.bool true) ?_; intro a127 hF128; clear hF126
  refine sk hF128 (b := true) rfl rfl (by kernel_rfl) (by kernel_rfl) rfl rfl (by kernel_rfl) ?_; intro a129 hF130; clear hF128
  refine sk hF130 (b := true) rfl rfl (by kernel_rfl) (by kernel_rfl) rfl rfl (by kernel_rfl) ?_; intro a131 hF132; clear hF130
  refine sk hF132 (b := true) rfl rfl (by kernel_rfl) (by kernel_rfl) rfl rfl (by kernel_rfl) ?_; intro a133 hF134; clear hF132
  refine sk hF134 (b := true) rfl rfl (by kernel_rfl) (by kernel_rfl) rfl rfl (by kernel_rfl) ?_; intro a135 hF136; clear hF134
  refine sk hF136 (b := true) rfl rfl (by kernel_rfl) (by kernel_rfl) rfl rfl (by kernel_rfl) ?_; intro a137 hF138; clear hF136
  refine sk hF138 (b := true) rfl rfl (by kernel_rfl) (by kernel_rfl) rfl rfl (by kernel_rfl) ?_; intro a139 hF140; clear hF138
  refine sk hF140 (b := true) rfl rfl (by kernel_rfl) (by kernel_rfl) rfl rfl (by kernel_rfl) ?_; intro a141 hF142; clear hF140
  refine sk hF142 (b := true) rfl rfl (by kernel_rfl) (by kernel_rfl) rfl rfl (by kernel_rfl) ?_; intro a143 hF144; clear hF142
  refine sk hF144 (b := true) rfl rfl (by kernel_rfl) (by kernel_rfl) rfl rfl (by kernel_rfl) ?_; intro a145 hF146; clear hF144
  refine s1 hF146 75 (.bool true) ?_; intro a147 hF148; clear hF146
  refine nlH (hQ41 _ _ ?_); clear hQ41 hQ41Q
  refine cdT hF148 (by kernel_rfl) ?_
  have hF149 : Fr 127 [] [] a147 := hF148.region (by kernel_rfl) (by kernel_rfl); clear hF148
  refine sqH ?_; intro hQ150Q hQ150
  refine fcl hF149 hM73 (.bool true) 12 #[] (nog rfl _) rfl (by kernel_rfl) (fun _ => by kernel_rfl) (summed_fun  _ _ hM73.fz) ?_; intro a151 wd153 hF152 hM154; clear hF149 hM73
  refine s1 hF152 8 (.bool true) ?_; intro a155 hF156; clear hF152
  refine nlH (hQ150 _ _ ?_); clear hQ150 hQ150Q
  refine wp_ret ?_
  refine thr ?_
  refine rt (fn := Tryd.f4) (v := .bool true) hF156 (re1 hF156 (fn := Tryd.f4) rfl (by kernel_rfl)) ?_
  exact ⟨true, rfl, hp84, hM154.below⟩
 · -- false
  have hp157 := hp.2 hb83; clear hp
  have hF158 := hF82.reval (d := 43) (c := []) (v := .bool (((((csumS u0 u1).2) != 0) || (((csize u0).2) != 0)) || ((bcheckS u3) != 0))) (by kernel_rfl) (.bool false) (by rw [hb83]); clear hF82
  have hF159 := hF158.setc (d := 44) (c := [2]) (v := str u3) (by kernel_rfl) (v' := str u3) (by rw [hb83]; kernel_rfl); clear hF158
  have hc160 := hp157.1; have hp161 := hp157.2; clear hp157
  refine fcl hF159 hM73 (.bool (contS u3 ([49] : List UInt8))) 16 #[str u3, str ([49] : List UInt8)] (by rw [wanted_of hF159 (b := false) rfl rfl (by kernel_rfl) (by kernel_rfl)]; rfl) rfl (by kernel_rfl) (fun _ => by kernel_rfl) (contains_fun u3 ([49] : List UInt8) hc160 _ _ hM73.fz) ?_; intro a162 wd164 hF163 hM165; clear hF159 hM73
  refine st hF163 (.bool (!(contS u3 ([49] : List UInt8)))) (by rw [wanted_of hF163 (b := false) rfl rfl (by kernel_rfl) (by kernel_rfl)]; rfl) rfl (by kernel_rfl) (p0 hF163 (by kernel_rfl)) ?_; intro a166 hF167; clear hF163
  refine s1 hF167 47 (.bool (!(contS u3 ([49] : List UInt8)))) ?_; intro a168 hF169; clear hF167
  refine s1 hF169 48 (.bool (!(contS u3 ([49] : List UInt8)))) ?_; intro a170 hF171; clear hF169
  have hF172 := hF171.atom ((!(contS u3 ([49] : List UInt8))) == false) (by kernel_rfl); clear hF171
  refine gp hF172 49 3 [] (!(contS u3 ([49] : List UInt8))) (str u3) rfl rfl ?_; intro a173 hF174; clear hF172
  refine gp hF174 50 3 [] (!(contS u3 ([49] : List UInt8))) (.int .i64 (u3.length : Int)) rfl rfl ?_; intro a175 hF176; clear hF174
  refine gp hF176 51 3 [] (!(contS u3 ([49] : List UInt8))) (.int .i64 ((csize u0).1)) rfl rfl ?_; intro a177 hF178; clear hF176
  refine gp hF178 52 3 [] (!(contS u3 ([49] : List UInt8))) (.bool (decide ((u3.length : Int) > ((csize u0).1)))) rfl rfl ?_; intro a179 hF180; clear hF178
  refine st hF180 (.bool ((!(contS u3 ([49] : List UInt8))) || (decide ((u3.length : Int) > ((csize u0).1))))) (nog rfl _) rfl (by kernel_rfl) (pk_or hF180 (g := []) (m := 3) (b := !(contS u3 ([49] : List UInt8))) (v := decide ((u3.length : Int) > ((csize u0).1))) rfl (by kernel_rfl) (by kernel_rfl) (by kernel_rfl) rfl) ?_; intro a181 hF182; clear hF180
  refine s1 hF182 54 (.bool ((!(contS u3 ([49] : List UInt8))) || (decide ((u3.length : Int) > ((csize u0).1))))) ?_; intro a183 hF184; clear hF182
  have hF185 := hF184.atom (((!(contS u3 ([49] : List UInt8))) || (decide ((u3.length : Int) > ((csize u0).1)))) == false) (by kernel_rfl); clear hF184
  refine gp hF185 55 4 [] ((!(contS u3 ([49] : List UInt8))) || (decide ((u3.length : Int) > ((csize u0).1)))) (str u1) rfl rfl ?_; intro a186 hF187; clear hF185
  refine gp hF187 56 4 [] ((!(contS u3 ([49] : List UInt8))) || (decide ((u3.length : Int) > ((csize u0).1)))) (.int .i64 (u1.length : Int)) rfl rfl ?_; intro a188 hF189; clear hF187
  refine gp hF189 57 4 [] ((!(contS u3 ([49] : List UInt8))) || (decide ((u3.length : Int) > ((csize u0).1)))) (.int .i64 ((csize u0).1)) rfl rfl ?_; intro a190 hF191; clear hF189
  refine gp hF191 58 4 [] ((!(contS u3 ([49] : List UInt8))) || (decide ((u3.length : Int) > ((csize u0).1)))) (.int .i64 (w64 ((u1.length : Int) + ((csize u0).1)))) rfl rfl ?_; intro a192 hF193; clear hF191
  refine gp hF193 59 4 [] ((!(contS u3 ([49] : List UInt8))) || (decide ((u3.length : Int) > ((csize u0).1)))) (.bool (decide ((w64 ((u1.length : Int) + ((csize u0).1))) > 1000))) rfl rfl ?_; intro a194 hF195; clear hF193
  refine st hF195 (.bool (((!(contS u3 ([49] : List UInt8))) || (decide ((u3.length : Int) > ((csize u0).1)))) || (decide ((w64 ((u1.length : Int) + ((csize u0).1))) > 1000)))) (nog rfl _) rfl (by kernel_rfl) (pk_or hF195 (g := []) (m := 4) (b := (!(contS u3 ([49] : List UInt8))) || (decide ((u3.length : Int) > ((csize u0).1)))) (v := decide ((w64 ((u1.length : Int) + ((csize u0).1))) > 1000)) rfl (by kernel_rfl) (by kernel_rfl) (by kernel_rfl) rfl) ?_; intro a196 hF197; clear hF195
  refine s1 hF197 61 (.bool (((!(contS u3 ([49] : List UInt8))) || (decide ((u3.length : Int) > ((csize u0).1)))) || (decide ((w64 ((u1.length : Int) + ((csize u0).1))) > 1000)))) ?_; intro a198 hF199; clear hF197
  have hF200 := hF199.atom ((((!(contS u3 ([49] : List UInt8))) || (decide ((u3.length : Int) > ((csize u0).1)))) || (decide ((w64 ((u1.length : Int) + ((csize u0).1))) > 1000))) == false) (by kernel_rfl); clear hF199
  refine gp hF200 62 5 [] (((!(contS u3 ([49] : List UInt8))) || (decide ((u3.length : Int) > ((csize u0).1)))) || (decide ((w64 ((u1.length : Int) + ((csize u0).1))) > 1000))) (.int .i64 u2) rfl rfl ?_; intro a201 hF202; clear hF200
  refine gp hF202 63 5 [] (((!(contS u3 ([49] : List UInt8))) || (decide ((u3.length : Int) > ((csize u0).1)))) || (decide ((w64 ((u1.length : Int) + ((csize u0).1))) > 1000))) (.bool (decide (u2 < 0))) rfl rfl ?_; intro a203 hF204; clear hF202
  refine st hF204 (.bool ((((!(contS u3 ([49] : List UInt8))) || (decide ((u3.length : Int) > ((csize u0).1)))) || (decide ((w64 ((u1.length : Int) + ((csize u0).1))) > 1000))) || (decide (u2 < 0)))) (nog rfl _) rfl (by kernel_rfl) (pk_or hF204 (g := []) (m := 5) (b := ((!(contS u3 ([49] : List UInt8))) || (decide ((u3.length : Int) > ((csize u0).1)))) || (decide ((w64 ((u1.length : Int) + ((csize u0).1))) > 1000))) (v := decide (u2 < 0)) rfl (by kernel_rfl) (by kernel_rfl) (by kernel_rfl) rfl) ?_; intro a205 hF206; clear hF204
  refine s1 hF206 65 (.bool ((((!(contS u3 ([49] : List UInt8))) || (decide ((u3.length : Int) > ((csize u0).1)))) || (decide ((w64 ((u1.length : Int) + ((csize u0).1))) > 1000))) || (decide (u2 < 0)))) ?_; intro a207 hF208; clear hF206
  have hF209 := hF208.atom (((((!(contS u3 ([49] : List UInt8))) || (decide ((u3.length : Int) > ((csize u0).1)))) || (decide ((w64 ((u1.length : Int) + ((csize u0).1))) > 1000))) || (decide (u2 < 0))) == false) (by kernel_rfl); clear hF208
  refine gp hF209 66 6 [] ((((!(contS u3 ([49] : List UInt8))) || (decide ((u3.length : Int) > ((csize u0).1)))) || (decide ((w64 ((u1.length : Int) + ((csize u0).1))) > 1000))) || (decide (u2 < 0))) (.int .i64 u2) rfl rfl ?_; intro a210 hF211; clear hF209
  refine gp hF211 67 6 [] ((((!(contS u3 ([49] : List UInt8))) || (decide ((u3.length : Int) > ((csize u0).1)))) || (decide ((w64 ((u1.length : Int) + ((csize u0).1))) > 1000))) || (decide (u2 < 0))) (str u1) rfl rfl ?_; intro a212 hF213; clear hF211
  refine gp hF213 68 6 [] ((((!(contS u3 ([49] : List UInt8))) || (decide ((u3.length : Int) > ((csize u0).1)))) || (decide ((w64 ((u1.length : Int) + ((csize u0).1))) > 1000))) || (decide (u2 < 0))) (.int .i64 (u1.length : Int)) rfl rfl ?_; intro a214 hF215; clear hF213
  refine gp hF215 69 6 [] ((((!(contS u3 ([49] : List UInt8))) || (decide ((u3.length : Int) > ((csize u0).1)))) || (decide ((w64 ((u1.length : Int) + ((csize u0).1))) > 1000))) || (decide (u2 < 0))) (.int .i64 ((csize u0).1)) rfl rfl ?_; intro a216 hF217; clear hF215
  refine gp hF217 70 6 [] ((((!(contS u3 ([49] : List UInt8))) || (decide ((u3.length : Int) > ((csize u0).1)))) || (decide ((w64 ((u1.length : Int) + ((csize u0).1))) > 1000))) || (decide (u2 < 0))) (.int .i64 (w64 ((u1.length : Int) + ((csize u0).1)))) rfl rfl ?_; intro a218 hF219; clear hF217
  refine gp hF219 71 6 [] ((((!(contS u3 ([49] : List UInt8))) || (decide ((u3.length : Int) > ((csize u0).1)))) || (decide ((w64 ((u1.length : Int) + ((csize u0).1))) > 1000))) || (decide (u2 < 0))) (str u3) rfl rfl ?_; intro a220 hF221; clear hF219
  refine gp hF221 72 6 [] ((((!(contS u3 ([49] : List UInt8))) || (decide ((u3.length : Int) > ((csize u0).1)))) || (decide ((w64 ((u1.length : Int) + ((csize u0).1))) > 1000))) || (decide (u2 < 0))) (.int .i64 (u3.length : Int)) rfl rfl ?_; intro a222 hF223; clear hF221
  refine gp hF223 73 6 [] ((((!(contS u3 ([49] : List UInt8))) || (decide ((u3.length : Int) > ((csize u0).1)))) || (decide ((w64 ((u1.length : Int) + ((csize u0).1))) > 1000))) || (decide (u2 < 0))) (.int .i64 (w64 ((w64 ((u1.length : Int) + ((csize u0).1))) - (u3.length : Int)))) rfl rfl ?_; intro a224 hF225; clear hF223
  refine gp hF225 74 6 [] ((((!(contS u3 ([49] : List UInt8))) || (decide ((u3.length : Int) > ((csize u0).1)))) || (decide ((w64 ((u1.length : Int) + ((csize u0).1))) > 1000))) || (decide (u2 < 0))) (.bool (decide (u2 > (w64 ((w64 ((u1.length : Int) + ((csize u0).1))) - (u3.length : Int)))))) rfl rfl ?_; intro a226 hF227; clear hF225
  refine st hF227 (.bool (((((!(contS u3 ([49] : List UInt8))) || (decide ((u3.length : Int) > ((csize u0).1)))) || (decide ((w64 ((u1.length : Int) + ((csize u0).1))) > 1000))) || (decide (u2 < 0))) || (decide (u2 > (w64 ((w64 ((u1.length : Int) + ((csize u0).1))) - (u3.length : Int))))))) (nog rfl _) rfl (by kernel_rfl) (pk_or hF227 (g := []) (m := 6) (b := (((!(contS u3 ([49] : List UInt8))) || (decide ((u3.length : Int) > ((csize u0).1)))) || (decide ((w64 ((u1.length : Int) + ((csize u0).1))) > 1000))) || (decide (u2 < 0))) (v := decide (u2 > (w64 ((w64 ((u1.length : Int) + ((csize u0).1))) - (u3.length : Int))))) rfl (by kernel_rfl) (by kernel_rfl) (by kernel_rfl) rfl) ?_; intro a228 hF229; clear hF227
  refine nlH (hQ41 _ _ ?_); clear hQ41 hQ41Q
  refine cd hF229 (t := ((((!(contS u3 ([49] : List UInt8))) || (decide ((u3.length : Int) > ((csize u0).1)))) || (decide ((w64 ((u1.length : Int) + ((csize u0).1))) > 1000))) || (decide (u2 < 0))) || (decide (u2 > (w64 ((w64 ((u1.length : Int) + ((csize u0).1))) - (u3.length : Int)))))) (by kernel_rfl) (fun hb230 => ?_) (fun hb230 => ?_)
  · -- yes
   have hp231 := hp161.1 hb230; clear hp161
   have hF232 : Fr 127 [] [] a228 := hF229.region (by kernel_rfl) (by kernel_rfl); clear hF229
   refine sqH ?_; intro hQ233Q hQ233
   refine fcl hF232 hM165 (.bool true) 12 #[] (nog rfl _) rfl (by kernel_rfl) (fun _ => by kernel_rfl) (summed_fun  _ _ hM165.fz) ?_; intro a234 wd236 hF235 hM237; clear hF232 hM165
   refine s1 hF235 8 (.bool true) ?_; intro a238 hF239; clear hF235
   refine nlH (hQ233 _ _ ?_); clear hQ233 hQ233Q
   refine wp_ret ?_
   refine thr ?_
   refine rt (fn := Tryd.f4) (v := .bool true) hF239 (re1 hF239 (fn := Tryd.f4) rfl (by kernel_rfl)) ?_
   exact ⟨true, rfl, hp231, hM237.below⟩
  · -- no
   have hp240 := hp161.2 hb230; clear hp161
   refine wp_skip ?_
   refine thn ?_
   have hF241 : Fr 127 [] [⟨0, [], .int .i64 u0⟩, ⟨1, [], str u1⟩, ⟨2, [], .int .i64 u2⟩, ⟨3, [], str u3⟩, ⟨9, [], str ((csumS u0 u1).1)⟩] a228 := hF229.region (by kernel_rfl) (by kernel_rfl); clear hF229
   refine sqH ?_; intro hQ242Q hQ242
   refine s1 hF241 77 (str u1) ?_; intro a243 hF244; clear hF241
   refine s1 hF244 78 (str ((csumS u0 u1).1)) ?_; intro a245 hF246; clear hF244
   have hc247 := hp240.1; have hp248 := hp240.2; clear hp240
   refine st hF246 (str (u1 ++ ((csumS u0 u1).1))) (nog rfl _) rfl (by kernel_rfl) (stradd_run hF246 (g := []) rfl (by kernel_rfl) (by kernel_rfl) hc247 rfl) ?_; intro a249 hF250; clear hF246
   have hc251 := hp248.1; have hp252 := hp248.2; clear hp248
   refine s2b hF250 hM165 hc251 (e := 5) (nog rfl _) rfl (by kernel_rfl) rfl (by kernel_rfl) (by kernel_rfl) (by kernel_rfl) (by kernel_rfl) ?_; intro ao253 cap254 a257 wd255 hF258 hM256; clear hF250 hM165
   have hM259 : Mem w.heap.size [] w Z [.mrk (tyInt .u8) 5 ao253 cap254 (istr (u1 ++ ((csumS u0 u1).1)))] Z wd255 := hM256; clear hM256
   refine s1 hF258 13 (.slice ao253 (istr (u1 ++ ((csumS u0 u1).1))).length cap254) ?_; intro a260 hF261; clear hF258
   refine nlH (hQ242 _ _ ?_); clear hQ242 hQ242Q
   refine wp_seq ?_
   refine sqH ?_; intro hQ262Q hQ262
   refine s1 hF261 81 (str u3) ?_; intro a263 hF264; clear hF261
   refine s1 hF264 82 (.int .i64 (u3.length : Int)) ?_; intro a265 hF266; clear hF264
   refine s1 hF266 83 (.int .i64 0) ?_; intro a267 hF268; clear hF266
   refine nlH (hQ262 _ _ ?_); clear hQ262 hQ262Q
   refine wp_block ?_
   have hF269 : Fr 127 [] [⟨0, [], .int .i64 u0⟩, ⟨1, [], str u1⟩, ⟨2, [], .int .i64 u2⟩, ⟨3, [], str u3⟩, ⟨9, [], str ((csumS u0 u1).1)⟩, ⟨13, [], .slice ao253 (istr (u1 ++ ((csumS u0 u1).1))).length cap254⟩, ⟨82, [], .int .i64 (u3.length : Int)⟩, ⟨83, [], .int .i64 0⟩] a267 := hF268.region (by kernel_rfl) (by kernel_rfl); clear hF268
   have hF271 : Fr 127 [] [⟨0, [], .int .i64 u0⟩, ⟨1, [], str u1⟩, ⟨2, [], .int .i64 u2⟩, ⟨3, [], str u3⟩, ⟨9, [], str ((csumS u0 u1).1)⟩, ⟨13, [], .slice ao253 (istr (u1 ++ ((csumS u0 u1).1))).length cap254⟩, ⟨82, [], .int .i64 (u3.length : Int)⟩, ⟨83, [], .int .i64 0⟩] a267 := hF269.region (by kernel_rfl) (by kernel_rfl); clear hF269
   obtain ⟨inv270, mu270, hI274, hr273⟩ := hp252
   refine lp (ι := Int × (List Int)) (fun (s : Int × (List Int)) => [⟨0, [], .int .i64 u0⟩, ⟨1, [], str u1⟩, ⟨2, [], .int .i64 u2⟩, ⟨3, [], str u3⟩, ⟨9, [], str ((csumS u0 u1).1)⟩, ⟨13, [], .slice ao253 s.2.length cap254⟩, ⟨82, [], .int .i64 (u3.length : Int)⟩, ⟨83, [], .int .i64 s.1⟩]) (fun (s : Int × (List Int)) => [.mrk (tyInt .u8) 5 ao253 cap254 s.2]) (fun (s : Int × (List Int)) => Z) (fun (s : Int × (List Int)) => inv270 s.1 s.2) (fun (s : Int × (List Int)) => mu270 s.1 s.2) ⟨0, istr (u1 ++ ((csumS u0 u1).1))⟩ hI274 (by exact hF271.region (by kernel_rfl) (by kernel_rfl)) (by exact hM259) ?_
   rintro ⟨x83, zao253⟩ hI272 a276 wd277 hF278 hM279
   have hF280 : Fr 127 [] [⟨0, [], .int .i64 u0⟩, ⟨1, [], str u1⟩, ⟨2, [], .int .i64 u2⟩, ⟨3, [], str u3⟩, ⟨9, [], str ((csumS u0 u1).1)⟩, ⟨13, [], .slice ao253 zao253.length cap254⟩, ⟨82, [], .int .i64 (u3.length : Int)⟩, ⟨83, [], .int .i64 x83⟩] a276 := hF278; clear hF278 hF271
   have hM281 : Mem w.heap.size [] w Z [.mrk (tyInt .u8) 5 ao253 cap254 zao253] Z wd277 := hM279; clear hM279 hM259
   have hp282 := hr273 x83 zao253 hI272
   refine sqH ?_; intro hQ283Q hQ283
   refine s1 hF280 84 (.bool (decide (x83 < (u3.length : Int)))) ?_; intro a284 hF285; clear hF280
   refine nlH (hQ283 _ _ ?_); clear hQ283 hQ283Q
   refine wp_seq ?_
   refine cd hF285 (t := decide (x83 < (u3.length : Int))) (by kernel_rfl) (fun hb286 => ?_) (fun hb286 => ?_)
   · -- yes
    have hp287 := hp282.1 hb286; clear hp282
    refine wp_skip ?_
    refine thn ?_
    refine wp_seq ?_
    refine wp_block ?_
    refine sqH ?_; intro hQ288Q hQ288
    refine s1 hF285 85 (.int .i64 x83) ?_; intro a289 hF290; clear hF285
    refine s1 hF290 14 (.int .i64 x83) ?_; intro a291 hF292; clear hF290
    refine nlH (hQ288 _ _ ?_); clear hQ288 hQ288Q
    refine sqH ?_; intro hQ293Q hQ293
    refine s1 hF292 86 (str u3) ?_; intro a294 hF295; clear hF292
    refine s1 hF295 87 (.int .i64 x83) ?_; intro a296 hF297; clear hF295
    have hc298 := hp287.1; have hp299 := hp287.2; clear hp287
    obtain ⟨c300, hq301⟩ : ∃ q, u3[x83.toNat]? = some q := ⟨_, List.getElem?_eq_getElem (by omega)⟩; have hp302 := hp299 c300 hq301
    refine st hF297 (.int .u8 (c300.toNat : Int)) (nog rfl _) rfl (by kernel_rfl) (stridx_run hF297 (k := .i64) rfl (by kernel_rfl) (by kernel_rfl) (by kernel_rfl) hc298.1 hq301) ?_; intro a303 hF304; clear hF297
    refine s1 hF304 89 (.bool ((c300.toNat : Int) == 49)) ?_; intro a305 hF306; clear hF304
    refine nlH (hQ293 _ _ ?_); clear hQ293 hQ293Q
    refine cd hF306 (t := (c300.toNat : Int) == 49) (by kernel_rfl) (fun hb307 => ?_) (fun hb307 => ?_)
    · -- yes
     have hp308 := hp302.1 hb307; clear hp302
     refine rgH ?_; intro hQ309Q hQ309
     refine s1 hF306 90 (.slice ao253 zao253.length cap254) ?_; intro a310 hF311; clear hF306
     refine s1 hF311 91 (.int .i64 u2) ?_; intro a312 hF313; clear hF311
     refine s1 hF313 92 (.int .i64 x83) ?_; intro a314 hF315; clear hF313
     refine s1 hF315 93 (.int .i64 (w64 (u2 + x83))) ?_; intro a316 hF317; clear hF315
     have hc318 := hp308.1; have hp319 := hp308.2; clear hp308
     refine ixoM hF317 hM281 0 (T := (tyInt .u8)) (xs := zao253) (w64 (u2 + x83)) hc318 (k := .i64) (e := 5) (bytes := 1) (nog rfl _) rfl (by kernel_rfl) rfl (by kernel_rfl) (by kernel_rfl) rfl (by kernel_rfl) ?_; intro g320 a322 hg321 hF323; clear hF317
     subst hg321
     have hF324 : Fr 127 [] [⟨0, [], .int .i64 u0⟩, ⟨1, [], str u1⟩, ⟨2, [], .int .i64 u2⟩, ⟨3, [], str u3⟩, ⟨9, [], str ((csumS u0 u1).1)⟩, ⟨13, [], .slice (some ⟨g320, 0, none⟩) zao253.length cap254⟩, ⟨14, [], .int .i64 x83⟩, ⟨82, [], .int .i64 (u3.length : Int)⟩, ⟨83, [], .int .i64 x83⟩, ⟨84, [], .bool (decide (x83 < (u3.length : Int)))⟩, ⟨85, [], .int .i64 x83⟩, ⟨86, [], str u3⟩, ⟨87, [], .int .i64 x83⟩, ⟨88, [], .int .u8 (c300.toNat : Int)⟩, ⟨89, [], .bool ((c300.toNat : Int) == 49)⟩, ⟨90, [], .slice (some ⟨g320, 0, none⟩) zao253.length cap254⟩, ⟨91, [], .int .i64 u2⟩, ⟨92, [], .int .i64 x83⟩, ⟨93, [], .int .i64 (w64 (u2 + x83))⟩, ⟨94, [], .pointer (some ⟨g320, (w64 (u2 + x83)).toNat * 1, none⟩)⟩] a322 := hF323.region (by kernel_rfl) (by kernel_rfl); clear hF323
     have hM325 : Mem w.heap.size [] w Z [.mrk (tyInt .u8) 5 (some ⟨g320, 0, none⟩) cap254 zao253] Z wd277 := hM281; clear hM281
     obtain ⟨q326, hq327⟩ : ∃ q, zao253[(w64 (u2 + x83)).toNat]? = some q := ⟨_, List.getElem?_eq_getElem (by first | omega | (simp only [List.length_set] at *; omega))⟩; have hp328 := hp319 q326 hq327; clear hp319
     obtain ⟨cs329, hT330, hcl331⟩ := own_elM hM325 0 (T := (tyInt .u8)) (xs := zao253) rfl (w64 (u2 + x83)).toNat hq327
     obtain rfl : cs329 = ([.int .u8 q326] : List Value) := hT330
     refine lc1 hF324 95 (.int .u8 q326) (hcl331 0 _ rfl) rfl ?_; intro a332 hF333; clear hF324
     refine s1 hF333 96 (.int .u8 (bXor .u8 q326 1)) ?_; intro a334 hF335; clear hF333
     have hc336 := hp328.1; have hp337 := hp328.2; clear hp328
     refine ixoM hF335 hM325 0 (T := (tyInt .u8)) (xs := zao253) (w64 (u2 + x83)) hc336 (k := .i64) (e := 5) (bytes := 1) (nog rfl _) rfl (by kernel_rfl) rfl (by kernel_rfl) (by kernel_rfl) rfl (by kernel_rfl) ?_; intro g338 a340 hg339 hF341; clear hF335
     obtain rfl : g320 = g338 := by simpa using hg339
     have hF342 : Fr 127 [] [⟨0, [], .int .i64 u0⟩, ⟨1, [], str u1⟩, ⟨2, [], .int .i64 u2⟩, ⟨3, [], str u3⟩, ⟨9, [], str ((csumS u0 u1).1)⟩, ⟨13, [], .slice (some ⟨g320, 0, none⟩) zao253.length cap254⟩, ⟨14, [], .int .i64 x83⟩, ⟨82, [], .int .i64 (u3.length : Int)⟩, ⟨83, [], .int .i64 x83⟩, ⟨84, [], .bool (decide (x83 < (u3.length : Int)))⟩, ⟨85, [], .int .i64 x83⟩, ⟨86, [], str u3⟩, ⟨87, [], .int .i64 x83⟩, ⟨88, [], .int .u8 (c300.toNat : Int)⟩, ⟨89, [], .bool ((c300.toNat : Int) == 49)⟩, ⟨90, [], .slice (some ⟨g320, 0, none⟩) zao253.length cap254⟩, ⟨91, [], .int .i64 u2⟩, ⟨92, [], .int .i64 x83⟩, ⟨93, [], .int .i64 (w64 (u2 + x83))⟩, ⟨94, [], .pointer (some ⟨g320, (w64 (u2 + x83)).toNat * 1, none⟩)⟩, ⟨95, [], .int .u8 q326⟩, ⟨96, [], .int .u8 (bXor .u8 q326 1)⟩, ⟨97, [], .pointer (some ⟨g320, (w64 (u2 + x83)).toNat * 1, none⟩)⟩] a340 := hF341.region (by kernel_rfl) (by kernel_rfl); clear hF341
     have hM343 : Mem w.heap.size [] w Z [.mrk (tyInt .u8) 5 (some ⟨g320, 0, none⟩) cap254 zao253] Z wd277 := hM325; clear hM325
     refine soM hF342 hM343 0 (T := (tyInt .u8)) (xs := zao253) (w64 (u2 + x83)).toNat (bXor .u8 q326 1) (u := .int .u8 (bXor .u8 q326 1)) (nog rfl _) rfl rfl (by kernel_rfl) rfl (by kernel_rfl) rfl (by kernel_rfl) (by simp only [List.length_set] at *; omega) rfl ?_; intro wd344 hM345; clear hM343
     have hF346 : Fr 127 [] [⟨0, [], .int .i64 u0⟩, ⟨1, [], str u1⟩, ⟨2, [], .int .i64 u2⟩, ⟨3, [], str u3⟩, ⟨9, [], str ((csumS u0 u1).1)⟩, ⟨13, [], .slice (some ⟨g320, 0, none⟩) (zao253.set (w64 (u2 + x83)).toNat (bXor .u8 q326 1)).length cap254⟩, ⟨14, [], .int .i64 x83⟩, ⟨82, [], .int .i64 (u3.length : Int)⟩, ⟨83, [], .int .i64 x83⟩, ⟨84, [], .bool (decide (x83 < (u3.length : Int)))⟩, ⟨85, [], .int .i64 x83⟩, ⟨86, [], str u3⟩, ⟨87, [], .int .i64 x83⟩, ⟨88, [], .int .u8 (c300.toNat : Int)⟩, ⟨89, [], .bool ((c300.toNat : Int) == 49)⟩, ⟨90, [], .slice (some ⟨g320, 0, none⟩) (zao253.set (w64 (u2 + x83)).toNat (bXor .u8 q326 1)).length cap254⟩, ⟨91, [], .int .i64 u2⟩, ⟨92, [], .int .i64 x83⟩, ⟨93, [], .int .i64 (w64 (u2 + x83))⟩, ⟨94, [], .pointer (some ⟨g320, (w64 (u2 + x83)).toNat * 1, none⟩)⟩, ⟨95, [], .int .u8 q326⟩, ⟨96, [], .int .u8 (bXor .u8 q326 1)⟩, ⟨97, [], .pointer (some ⟨g320, (w64 (u2 + x83)).toNat * 1, none⟩)⟩] a340 := by (try simp only [List.length_set] at hF342); simp only [List.length_set]; exact hF342.region (by kernel_rfl) (by kernel_rfl)
     clear hF342
     have hM347 : Mem w.heap.size [] w Z [.mrk (tyInt .u8) 5 (some ⟨g320, 0, none⟩) cap254 (zao253.set (w64 (u2 + x83)).toNat (bXor .u8 q326 1))] Z wd344 := hM345; clear hM345
     refine nlH (hQ309 _ _ ?_); clear hQ309 hQ309Q
     refine ibn ?_
     refine thn ?_
     have hF348 : Fr 127 [] [⟨0, [], .int .i64 u0⟩, ⟨1, [], str u1⟩, ⟨2, [], .int .i64 u2⟩, ⟨3, [], str u3⟩, ⟨9, [], str ((csumS u0 u1).1)⟩, ⟨13, [], .slice (some ⟨g320, 0, none⟩) (zao253.set (w64 (u2 + x83)).toNat (bXor .u8 q326 1)).length cap254⟩, ⟨82, [], .int .i64 (u3.length : Int)⟩, ⟨83, [], .int .i64 x83⟩] a340 := hF346.region (by kernel_rfl) (by kernel_rfl); clear hF346
     refine rgH ?_; intro hQ349Q hQ349
     refine s1 hF348 98 (.int .i64 (w64 (x83 + 1))) ?_; intro a350 hF351; clear hF348
     refine s1 hF351 83 (.int .i64 (w64 (x83 + 1))) ?_; intro a352 hF353; clear hF351
     refine nlH (hQ349 _ _ ?_); clear hQ349 hQ349Q
     refine rd ?_
     exact ⟨⟨w64 (x83 + 1), zao253.set (w64 (u2 + x83)).toNat (bXor .u8 q326 1)⟩, hp337.1, hp337.2, (hF353.region (by kernel_rfl) (by kernel_rfl)).anyβ _ (by kernel_rfl), hM347.keep (List.Sublist.cons_cons _ (List.Sublist.slnil))⟩
    · -- no
     have hp354 := hp302.2 hb307; clear hp302
     refine wp_skip ?_
     refine ibn ?_
     refine thn ?_
     refine rgH ?_; intro hQ355Q hQ355
     refine s1 hF306 98 (.int .i64 (w64 (x83 + 1))) ?_; intro a356 hF357; clear hF306
     refine s1 hF357 83 (.int .i64 (w64 (x83 + 1))) ?_; intro a358 hF359; clear hF357
     refine nlH (hQ355 _ _ ?_); clear hQ355 hQ355Q
     refine rd ?_
     exact ⟨⟨w64 (x83 + 1), zao253⟩, hp354.1, hp354.2, (hF359.region (by kernel_rfl) (by kernel_rfl)).anyβ _ (by kernel_rfl), hM281.keep (List.Sublist.cons_cons _ (List.Sublist.slnil))⟩
   · -- no
    have hp360 := hp282.2 hb286; clear hp282
    refine wp_exit ?_
    refine thx ?_
    refine thx ?_
    refine ibx ?_
    refine thn ?_
    refine sqH ?_; intro hQ361Q hQ361
    refine s1 hF285 100 (.int .i64 u0) ?_; intro a362 hF363; clear hF285
    refine s1 hF363 101 (str u1) ?_; intro a364 hF365; clear hF363
    refine s1 hF365 102 (str ((csumS u0 u1).1)) ?_; intro a366 hF367; clear hF365
    have hc368 := hp360.1; have hp369 := hp360.2; clear hp360
    refine st hF367 (str (u1 ++ ((csumS u0 u1).1))) (nog rfl _) rfl (by kernel_rfl) (stradd_run hF367 (g := []) rfl (by kernel_rfl) (by kernel_rfl) hc368 rfl) ?_; intro a370 hF371; clear hF367
    refine fcl hF371 hM281 (.tuple #[.bool ((choldsS u0 (u1 ++ ((csumS u0 u1).1))).1), .int .i64 ((choldsS u0 (u1 ++ ((csumS u0 u1).1))).2)]) 17 #[.int .i64 u0, str (u1 ++ ((csumS u0 u1).1))] (nog rfl _) rfl (by kernel_rfl) (fun _ => by kernel_rfl) (cholds_fun u0 (u1 ++ ((csumS u0 u1).1)) _ _ hM281.fz) ?_; intro a372 wd374 hF373 hM375; clear hF371 hM281
    refine s1 hF373 99 (.tuple #[.bool ((choldsS u0 (u1 ++ ((csumS u0 u1).1))).1), .int .i64 ((choldsS u0 (u1 ++ ((csumS u0 u1).1))).2)]) ?_; intro a376 hF377; clear hF373
    refine s1 hF377 105 (.bool ((choldsS u0 (u1 ++ ((csumS u0 u1).1))).1)) ?_; intro a378 hF379; clear hF377
    refine s1 hF379 106 (.int .i64 ((choldsS u0 (u1 ++ ((csumS u0 u1).1))).2)) ?_; intro a380 hF381; clear hF379
    refine s1 hF381 15 (.bool ((choldsS u0 (u1 ++ ((csumS u0 u1).1))).1)) ?_; intro a382 hF383; clear hF381
    refine s1 hF383 10 (.int .i64 ((choldsS u0 (u1 ++ ((csumS u0 u1).1))).2)) ?_; intro a384 hF385; clear hF383
    refine nlH (hQ361 _ _ ?_); clear hQ361 hQ361Q
    refine sqH ?_; intro hQ386Q hQ386
    refine s1 hF385 108 (.int .i64 u0) ?_; intro a387 hF388; clear hF385
    refine s1 hF388 109 (.slice ao253 zao253.length cap254) ?_; intro a389 hF390; clear hF388
    refine st hF390 (str (bstr zao253)) (nog rfl _) rfl (by kernel_rfl) ((by obtain ⟨Z9, hle9, hon9, hs9⟩ := hM375.lendM 0 rfl; exact bstr_op hF390 (g := []) (e := 5) (ao := ao253) (cap := cap254) (xs := zao253) rfl (by kernel_rfl) (by kernel_rfl) (by kernel_rfl) (by kernel_rfl)  hs9 hon9 rfl)) ?_; intro a391 hF392; clear hF390
    refine fcl hF392 hM375 (.tuple #[.bool ((choldsS u0 (bstr zao253)).1), .int .i64 ((choldsS u0 (bstr zao253)).2)]) 17 #[.int .i64 u0, str (bstr zao253)] (nog rfl _) rfl (by kernel_rfl) (fun _ => by kernel_rfl) (cholds_fun u0 (bstr zao253) _ _ hM375.fz) ?_; intro a393 wd395 hF394 hM396; clear hF392 hM375
    refine s1 hF394 107 (.tuple #[.bool ((choldsS u0 (bstr zao253)).1), .int .i64 ((choldsS u0 (bstr zao253)).2)]) ?_; intro a397 hF398; clear hF394
    refine s1 hF398 112 (.bool ((choldsS u0 (bstr zao253)).1)) ?_; intro a399 hF400; clear hF398
    refine s1 hF400 113 (.int .i64 ((choldsS u0 (bstr zao253)).2)) ?_; intro a401 hF402; clear hF400
    refine s1 hF402 16 (.bool ((choldsS u0 (bstr zao253)).1)) ?_; intro a403 hF404; clear hF402
    refine s1 hF404 12 (.int .i64 ((choldsS u0 (bstr zao253)).2)) ?_; intro a405 hF406; clear hF404
    refine nlH (hQ386 _ _ ?_); clear hQ386 hQ386Q
    have hF407 : Fr 127 [] [⟨10, [], .int .i64 ((choldsS u0 (u1 ++ ((csumS u0 u1).1))).2)⟩, ⟨12, [], .int .i64 ((choldsS u0 (bstr zao253)).2)⟩, ⟨15, [], .bool ((choldsS u0 (u1 ++ ((csumS u0 u1).1))).1)⟩, ⟨16, [], .bool ((choldsS u0 (bstr zao253)).1)⟩] a405 := hF406.region (by kernel_rfl) (by kernel_rfl); clear hF406
    refine sqH ?_; intro hQ408Q hQ408
    refine s1 hF407 114 (.int .i64 ((choldsS u0 (u1 ++ ((csumS u0 u1).1))).2)) ?_; intro a409 hF410; clear hF407
    refine s1 hF410 115 (.bool (((choldsS u0 (u1 ++ ((csumS u0 u1).1))).2) == 0)) ?_; intro a411 hF412; clear hF410
    refine s1 hF412 116 (.bool (((choldsS u0 (u1 ++ ((csumS u0 u1).1))).2) == 0)) ?_; intro a413 hF414; clear hF412
    have hF415 := hF414.atom ((((choldsS u0 (u1 ++ ((csumS u0 u1).1))).2) == 0) == true) (by kernel_rfl); clear hF414
    refine gp hF415 117 0 [] (((choldsS u0 (u1 ++ ((csumS u0 u1).1))).2) == 0) (.int .i64 ((choldsS u0 (bstr zao253)).2)) rfl rfl ?_; intro a416 hF417; clear hF415
    refine gp hF417 118 0 [] (((choldsS u0 (u1 ++ ((csumS u0 u1).1))).2) == 0) (.bool (((choldsS u0 (bstr zao253)).2) == 0)) rfl rfl ?_; intro a418 hF419; clear hF417
    refine st hF419 (.bool ((((choldsS u0 (u1 ++ ((csumS u0 u1).1))).2) == 0) && (((choldsS u0 (bstr zao253)).2) == 0))) (nog rfl _) rfl (by kernel_rfl) (pk_and hF419 (g := []) (m := 0) (b := ((choldsS u0 (u1 ++ ((csumS u0 u1).1))).2) == 0) (v := ((choldsS u0 (bstr zao253)).2) == 0) rfl (by kernel_rfl) (by kernel_rfl) (by kernel_rfl) rfl) ?_; intro a420 hF421; clear hF419
    refine s1 hF421 120 (.bool ((((choldsS u0 (u1 ++ ((csumS u0 u1).1))).2) == 0) && (((choldsS u0 (bstr zao253)).2) == 0))) ?_; intro a422 hF423; clear hF421
    have hF424 := hF423.atom (((((choldsS u0 (u1 ++ ((csumS u0 u1).1))).2) == 0) && (((choldsS u0 (bstr zao253)).2) == 0)) == true) (by kernel_rfl); clear hF423
    refine gp hF424 121 1 [] ((((choldsS u0 (u1 ++ ((csumS u0 u1).1))).2) == 0) && (((choldsS u0 (bstr zao253)).2) == 0)) (.bool ((choldsS u0 (u1 ++ ((csumS u0 u1).1))).1)) rfl rfl ?_; intro a425 hF426; clear hF424
    refine st hF426 (.bool (((((choldsS u0 (u1 ++ ((csumS u0 u1).1))).2) == 0) && (((choldsS u0 (bstr zao253)).2) == 0)) && ((choldsS u0 (u1 ++ ((csumS u0 u1).1))).1))) (nog rfl _) rfl (by kernel_rfl) (pk_and hF426 (g := []) (m := 1) (b := (((choldsS u0 (u1 ++ ((csumS u0 u1).1))).2) == 0) && (((choldsS u0 (bstr zao253)).2) == 0)) (v := (choldsS u0 (u1 ++ ((csumS u0 u1).1))).1) rfl (by kernel_rfl) (by kernel_rfl) (by kernel_rfl) rfl) ?_; intro a427 hF428; clear hF426
    refine s1 hF428 123 (.bool (((((choldsS u0 (u1 ++ ((csumS u0 u1).1))).2) == 0) && (((choldsS u0 (bstr zao253)).2) == 0)) && ((choldsS u0 (u1 ++ ((csumS u0 u1).1))).1))) ?_; intro a429 hF430; clear hF428
    have hF431 := hF430.atom ((((((choldsS u0 (u1 ++ ((csumS u0 u1).1))).2) == 0) && (((choldsS u0 (bstr zao253)).2) == 0)) && ((choldsS u0 (u1 ++ ((csumS u0 u1).1))).1)) == true) (by kernel_rfl); clear hF430
    refine gp hF431 124 2 [] (((((choldsS u0 (u1 ++ ((csumS u0 u1).1))).2) == 0) && (((choldsS u0 (bstr zao253)).2) == 0)) && ((choldsS u0 (u1 ++ ((csumS u0 u1).1))).1)) (.bool ((choldsS u0 (bstr zao253)).1)) rfl rfl ?_; intro a432 hF433; clear hF431
    refine gp hF433 125 2 [] (((((choldsS u0 (u1 ++ ((csumS u0 u1).1))).2) == 0) && (((choldsS u0 (bstr zao253)).2) == 0)) && ((choldsS u0 (u1 ++ ((csumS u0 u1).1))).1)) (.bool (!((choldsS u0 (bstr zao253)).1))) rfl rfl ?_; intro a434 hF435; clear hF433
    refine st hF435 (.bool ((((((choldsS u0 (u1 ++ ((csumS u0 u1).1))).2) == 0) && (((choldsS u0 (bstr zao253)).2) == 0)) && ((choldsS u0 (u1 ++ ((csumS u0 u1).1))).1)) && (!((choldsS u0 (bstr zao253)).1)))) (nog rfl _) rfl (by kernel_rfl) (pk_and hF435 (g := []) (m := 2) (b := ((((choldsS u0 (u1 ++ ((csumS u0 u1).1))).2) == 0) && (((choldsS u0 (bstr zao253)).2) == 0)) && ((choldsS u0 (u1 ++ ((csumS u0 u1).1))).1)) (v := !((choldsS u0 (bstr zao253)).1)) rfl (by kernel_rfl) (by kernel_rfl) (by kernel_rfl) rfl) ?_; intro a436 hF437; clear hF435
    refine s1 hF437 8 (.bool ((((((choldsS u0 (u1 ++ ((csumS u0 u1).1))).2) == 0) && (((choldsS u0 (bstr zao253)).2) == 0)) && ((choldsS u0 (u1 ++ ((csumS u0 u1).1))).1)) && (!((choldsS u0 (bstr zao253)).1)))) ?_; intro a438 hF439; clear hF437
    refine nlH (hQ408 _ _ ?_); clear hQ408 hQ408Q
    refine wp_ret ?_
    refine rt (fn := Tryd.f4) (v := .bool ((((((choldsS u0 (u1 ++ ((csumS u0 u1).1))).2) == 0) && (((choldsS u0 (bstr zao253)).2) == 0)) && ((choldsS u0 (u1 ++ ((csumS u0 u1).1))).1)) && (!((choldsS u0 (bstr zao253)).1)))) hF439 (re1 hF439 (fn := Tryd.f4) rfl (by kernel_rfl)) ?_
    exact ⟨(((((choldsS u0 (u1 ++ ((csumS u0 u1).1))).2) == 0) && (((choldsS u0 (bstr zao253)).2) == 0)) && ((choldsS u0 (u1 ++ ((csumS u0 u1).1))).1)) && (!((choldsS u0 (bstr zao253)).1)), rfl, hp369, hM396.below⟩

end Go.Proofs.YtinegicenfndkaaDoor
